/-
  No cell of these rows narrows 'for every input' (looked for: loops, veiled, ifaces, maps, wideKeys, modest, calm, conditions, laid).
  DERIVED. THE GIVEN ROWS OF THIS SEAT. 8 by the template 'for every input the law returns true; each argument reads behind the call as it read before'; 0 by the template 'total and deterministic' (their statements: YtbijnfhcbanhdaaTotals.lean).
  GIVEN WITH THE SEED: the statements are not yours to turn. If you find one false, say at which input.
  Laid BY PROGRAM, IN A SANDBOX (cutbox-rows.mjs): the forced cells as the released guide's own fill.sh prints them over the translation 7a6160b4bb54d0a7… (all of the seat's roots in one cut). By AI agents, Wed Nov 11 2026. No macro, syntax, notation, axiom, sorry.
-/
import Derived.Test.YtbijnfhcbanhdaaChecked
import GoSem.Claim
import GoSem.ClaimJoined
import GoSem.ClaimMapViews
import Derived.JoinedTies
import Derived.KernelRfl
namespace Go.Proofs.Ytbijnfhcbanhdaa
/- THE CELL 'sum', in the pinned program and in every row, IS THE sha256 OF THE DUMP (.gsa) THAT YtbijnfhcbanhdaaProg.lean LOADS. Nothing in Lean hashes anything: it is a label: what it is worth is what the hold of that sum in a sandbox is worth. -/
noncomputable def Try.pinned : Pinned := { name := "ytbijnfhcbanhdaa", sum := "7a6160b4bb54d0a7adb7c0cf19bfa8a737f89bfe2c9031e3f716810ad09cd70e", checked := Try.checked }
namespace Rows
def none {H : Type} : Left H := { results := [], args := [] }

/-- 'scullerlaw14.TokenCodes': WHATEVER THE INPUT: true; the input reads as it did. -/
def tokenCodesSpec : ChangeSpec := { name := "tokenCodes", fn := fun _ => fun
  | [d1, d2, d3, d4, d5, d6, d7, d8] => { results := [.lit (.bool true)], args := [d1, d2, d3, d4, d5, d6, d7, d8] }
  | _ => none }
def tokenCodesRow : OpenClaim := { program := "ytbijnfhcbanhdaa", sum := "7a6160b4bb54d0a7adb7c0cf19bfa8a737f89bfe2c9031e3f716810ad09cd70e", func := "sculler/scullerlaw14.TokenCodes", spec := "tokenCodes", unfollowed := true, recurses := true, apart := false }
def TokenCodesSaid : Prop := tokenCodesRow.holds Try.pinned (OpenSpec.ofChange tokenCodesSpec)

/-- ITS FALSE NEIGHBOUR: 'it returns false'. Refute it at one input. -/
def tokenCodesWrong : ChangeSpec := { name := "tokenCodes", fn := fun _ => fun
  | [d1, d2, d3, d4, d5, d6, d7, d8] => { results := [.lit (.bool false)], args := [d1, d2, d3, d4, d5, d6, d7, d8] }
  | _ => none }
def TokenCodesWrongFalsely : Prop := tokenCodesRow.holds Try.pinned (OpenSpec.ofChange tokenCodesWrong)

/-- 'scullerlaw14.TokenBack': WHATEVER THE INPUT: true; the input reads as it did. -/
def tokenBackSpec : ChangeSpec := { name := "tokenBack", fn := fun _ => fun
  | [d1, d2, d3, d4, d5, d6] => { results := [.lit (.bool true)], args := [d1, d2, d3, d4, d5, d6] }
  | _ => none }
def tokenBackRow : OpenClaim := { program := "ytbijnfhcbanhdaa", sum := "7a6160b4bb54d0a7adb7c0cf19bfa8a737f89bfe2c9031e3f716810ad09cd70e", func := "sculler/scullerlaw14.TokenBack", spec := "tokenBack", unfollowed := true, recurses := true, apart := false }
def TokenBackSaid : Prop := tokenBackRow.holds Try.pinned (OpenSpec.ofChange tokenBackSpec)

/-- ITS FALSE NEIGHBOUR: 'it returns false'. Refute it at one input. -/
def tokenBackWrong : ChangeSpec := { name := "tokenBack", fn := fun _ => fun
  | [d1, d2, d3, d4, d5, d6] => { results := [.lit (.bool false)], args := [d1, d2, d3, d4, d5, d6] }
  | _ => none }
def TokenBackWrongFalsely : Prop := tokenBackRow.holds Try.pinned (OpenSpec.ofChange tokenBackWrong)

/-- 'scullerlaw14.TokenBits': WHATEVER THE INPUT: true; the input reads as it did. -/
def tokenBitsSpec : ChangeSpec := { name := "tokenBits", fn := fun _ => fun
  | [d1, d2, d3, d4, d5] => { results := [.lit (.bool true)], args := [d1, d2, d3, d4, d5] }
  | _ => none }
def tokenBitsRow : OpenClaim := { program := "ytbijnfhcbanhdaa", sum := "7a6160b4bb54d0a7adb7c0cf19bfa8a737f89bfe2c9031e3f716810ad09cd70e", func := "sculler/scullerlaw14.TokenBits", spec := "tokenBits", unfollowed := true, recurses := true, apart := false }
def TokenBitsSaid : Prop := tokenBitsRow.holds Try.pinned (OpenSpec.ofChange tokenBitsSpec)

/-- ITS FALSE NEIGHBOUR: 'it returns false'. Refute it at one input. -/
def tokenBitsWrong : ChangeSpec := { name := "tokenBits", fn := fun _ => fun
  | [d1, d2, d3, d4, d5] => { results := [.lit (.bool false)], args := [d1, d2, d3, d4, d5] }
  | _ => none }
def TokenBitsWrongFalsely : Prop := tokenBitsRow.holds Try.pinned (OpenSpec.ofChange tokenBitsWrong)

/-- 'scullerlaw14.TokenOnce': WHATEVER THE INPUT: true; the input reads as it did. -/
def tokenOnceSpec : ChangeSpec := { name := "tokenOnce", fn := fun _ => fun
  | [d] => { results := [.lit (.bool true)], args := [d] }
  | _ => none }
def tokenOnceRow : OpenClaim := { program := "ytbijnfhcbanhdaa", sum := "7a6160b4bb54d0a7adb7c0cf19bfa8a737f89bfe2c9031e3f716810ad09cd70e", func := "sculler/scullerlaw14.TokenOnce", spec := "tokenOnce", unfollowed := true, recurses := true, apart := false }
def TokenOnceSaid : Prop := tokenOnceRow.holds Try.pinned (OpenSpec.ofChange tokenOnceSpec)

/-- ITS FALSE NEIGHBOUR: 'it returns false'. Refute it at one input. -/
def tokenOnceWrong : ChangeSpec := { name := "tokenOnce", fn := fun _ => fun
  | [d] => { results := [.lit (.bool false)], args := [d] }
  | _ => none }
def TokenOnceWrongFalsely : Prop := tokenOnceRow.holds Try.pinned (OpenSpec.ofChange tokenOnceWrong)

/-- 'scullerlaw14.TokenForm': WHATEVER THE INPUT: true; the input reads as it did. -/
def tokenFormSpec : ChangeSpec := { name := "tokenForm", fn := fun _ => fun
  | [d1, d2, d3, d4] => { results := [.lit (.bool true)], args := [d1, d2, d3, d4] }
  | _ => none }
def tokenFormRow : OpenClaim := { program := "ytbijnfhcbanhdaa", sum := "7a6160b4bb54d0a7adb7c0cf19bfa8a737f89bfe2c9031e3f716810ad09cd70e", func := "sculler/scullerlaw14.TokenForm", spec := "tokenForm", unfollowed := true, recurses := true, apart := false }
def TokenFormSaid : Prop := tokenFormRow.holds Try.pinned (OpenSpec.ofChange tokenFormSpec)

/-- ITS FALSE NEIGHBOUR: 'it returns false'. Refute it at one input. -/
def tokenFormWrong : ChangeSpec := { name := "tokenForm", fn := fun _ => fun
  | [d1, d2, d3, d4] => { results := [.lit (.bool false)], args := [d1, d2, d3, d4] }
  | _ => none }
def TokenFormWrongFalsely : Prop := tokenFormRow.holds Try.pinned (OpenSpec.ofChange tokenFormWrong)

/-- 'scullerlaw14.TokenCut': WHATEVER THE INPUT: true; the input reads as it did. -/
def tokenCutSpec : ChangeSpec := { name := "tokenCut", fn := fun _ => fun
  | [d1, d2, d3, d4, d5] => { results := [.lit (.bool true)], args := [d1, d2, d3, d4, d5] }
  | _ => none }
def tokenCutRow : OpenClaim := { program := "ytbijnfhcbanhdaa", sum := "7a6160b4bb54d0a7adb7c0cf19bfa8a737f89bfe2c9031e3f716810ad09cd70e", func := "sculler/scullerlaw14.TokenCut", spec := "tokenCut", unfollowed := true, recurses := true, apart := false }
def TokenCutSaid : Prop := tokenCutRow.holds Try.pinned (OpenSpec.ofChange tokenCutSpec)

/-- ITS FALSE NEIGHBOUR: 'it returns false'. Refute it at one input. -/
def tokenCutWrong : ChangeSpec := { name := "tokenCut", fn := fun _ => fun
  | [d1, d2, d3, d4, d5] => { results := [.lit (.bool false)], args := [d1, d2, d3, d4, d5] }
  | _ => none }
def TokenCutWrongFalsely : Prop := tokenCutRow.holds Try.pinned (OpenSpec.ofChange tokenCutWrong)

/-- 'scullerlaw15.KeepToken': WHATEVER THE INPUT: true; the input reads as it did. -/
def keepTokenSpec : ChangeSpec := { name := "keepToken", fn := fun _ => fun
  | [d1, d2, d3, d4, d5] => { results := [.lit (.bool true)], args := [d1, d2, d3, d4, d5] }
  | _ => none }
def keepTokenRow : OpenClaim := { program := "ytbijnfhcbanhdaa", sum := "7a6160b4bb54d0a7adb7c0cf19bfa8a737f89bfe2c9031e3f716810ad09cd70e", func := "sculler/scullerlaw15.KeepToken", spec := "keepToken", inPlace := ["maps.clone"], unfollowed := true, recurses := true, apart := false }
def KeepTokenSaid : Prop := keepTokenRow.holds Try.pinned (OpenSpec.ofChange keepTokenSpec)

/-- ITS FALSE NEIGHBOUR: 'it returns false'. Refute it at one input. -/
def keepTokenWrong : ChangeSpec := { name := "keepToken", fn := fun _ => fun
  | [d1, d2, d3, d4, d5] => { results := [.lit (.bool false)], args := [d1, d2, d3, d4, d5] }
  | _ => none }
def KeepTokenWrongFalsely : Prop := keepTokenRow.holds Try.pinned (OpenSpec.ofChange keepTokenWrong)

/-- 'scullerlaw15.KeepDoes': WHATEVER THE INPUT: true; the input reads as it did. -/
def keepDoesSpec : ChangeSpec := { name := "keepDoes", fn := fun _ => fun
  | [d] => { results := [.lit (.bool true)], args := [d] }
  | _ => none }
def keepDoesRow : OpenClaim := { program := "ytbijnfhcbanhdaa", sum := "7a6160b4bb54d0a7adb7c0cf19bfa8a737f89bfe2c9031e3f716810ad09cd70e", func := "sculler/scullerlaw15.KeepDoes", spec := "keepDoes", inPlace := ["maps.clone"], unfollowed := true, recurses := true, apart := false }
def KeepDoesSaid : Prop := keepDoesRow.holds Try.pinned (OpenSpec.ofChange keepDoesSpec)

/-- ITS FALSE NEIGHBOUR: 'it returns false'. Refute it at one input. -/
def keepDoesWrong : ChangeSpec := { name := "keepDoes", fn := fun _ => fun
  | [d] => { results := [.lit (.bool false)], args := [d] }
  | _ => none }
def KeepDoesWrongFalsely : Prop := keepDoesRow.holds Try.pinned (OpenSpec.ofChange keepDoesWrong)

/- THE SECOND FORM. 'bulk': how many values and letters a reading holds, each counted each time it is reached (what is shared counts as often as it is met; a slice's spare places count too). A statement '..UptoSaid' is the law's where the arguments, and the package variables that the reading takes, are together of bulk at most 1048576: NARROWER than '..Said'. Prove '..Said' where nothing that the law and all that it calls make is longer than what came in: it says more and counts as full. Else prove '..UptoSaid'. A law counts once. -/
mutual
def uptoBulk {H : Type} : DataW H → Nat
  | .lit (.string bytes) => bytes.length + 1
  | .lit _ => 1
  | .nil => 1
  | .ptr d => uptoBulk d + 1
  | .slice elems spare => uptoBulkAll elems + uptoBulkAll spare + 1
  | .agg parts => uptoBulkAll parts + 1
  | .iface _ d => uptoBulk d + 1
  | .map entries => uptoBulkEntries entries + 1
  | .held _ => 1
def uptoBulkAll {H : Type} : List (DataW H) → Nat
  | [] => 0
  | d :: r => uptoBulk d + uptoBulkAll r
def uptoBulkEntries {H : Type} : List (Lit × DataW H) → Nat
  | [] => 0
  | x :: r => uptoBulkEntry x + uptoBulkEntries r
def uptoBulkEntry {H : Type} : Lit × DataW H → Nat
  | (.string bytes, d) => bytes.length + uptoBulk d + 1
  | (_, d) => uptoBulk d + 1
 end
def uptoSmall : (H : Type) → List (DataW H) → Bool := fun _ ds => decide (uptoBulkAll ds ≤ 1048576)
def OpenSpec.upto (s : _root_.Go.ChangeSpec) : _root_.Go.OpenSpec := { _root_.Go.OpenSpec.ofChange s with cond := some uptoSmall }

/-- 'scullerlaw14.TokenCodes', WHERE WHAT IT READS IS OF BULK AT MOST 1048576: true; the input reads as it did. -/
def tokenCodesUptoRow : OpenClaim := { program := "ytbijnfhcbanhdaa", sum := "7a6160b4bb54d0a7adb7c0cf19bfa8a737f89bfe2c9031e3f716810ad09cd70e", func := "sculler/scullerlaw14.TokenCodes", spec := "tokenCodes", unfollowed := true, recurses := true, apart := false, narrowed := true }
def TokenCodesUptoSaid : Prop := tokenCodesUptoRow.holds Try.pinned (OpenSpec.upto tokenCodesSpec)

/-- 'scullerlaw14.TokenBack', WHERE WHAT IT READS IS OF BULK AT MOST 1048576: true; the input reads as it did. -/
def tokenBackUptoRow : OpenClaim := { program := "ytbijnfhcbanhdaa", sum := "7a6160b4bb54d0a7adb7c0cf19bfa8a737f89bfe2c9031e3f716810ad09cd70e", func := "sculler/scullerlaw14.TokenBack", spec := "tokenBack", unfollowed := true, recurses := true, apart := false, narrowed := true }
def TokenBackUptoSaid : Prop := tokenBackUptoRow.holds Try.pinned (OpenSpec.upto tokenBackSpec)

/-- 'scullerlaw14.TokenBits', WHERE WHAT IT READS IS OF BULK AT MOST 1048576: true; the input reads as it did. -/
def tokenBitsUptoRow : OpenClaim := { program := "ytbijnfhcbanhdaa", sum := "7a6160b4bb54d0a7adb7c0cf19bfa8a737f89bfe2c9031e3f716810ad09cd70e", func := "sculler/scullerlaw14.TokenBits", spec := "tokenBits", unfollowed := true, recurses := true, apart := false, narrowed := true }
def TokenBitsUptoSaid : Prop := tokenBitsUptoRow.holds Try.pinned (OpenSpec.upto tokenBitsSpec)

/-- 'scullerlaw14.TokenOnce', WHERE WHAT IT READS IS OF BULK AT MOST 1048576: true; the input reads as it did. -/
def tokenOnceUptoRow : OpenClaim := { program := "ytbijnfhcbanhdaa", sum := "7a6160b4bb54d0a7adb7c0cf19bfa8a737f89bfe2c9031e3f716810ad09cd70e", func := "sculler/scullerlaw14.TokenOnce", spec := "tokenOnce", unfollowed := true, recurses := true, apart := false, narrowed := true }
def TokenOnceUptoSaid : Prop := tokenOnceUptoRow.holds Try.pinned (OpenSpec.upto tokenOnceSpec)

/-- 'scullerlaw14.TokenForm', WHERE WHAT IT READS IS OF BULK AT MOST 1048576: true; the input reads as it did. -/
def tokenFormUptoRow : OpenClaim := { program := "ytbijnfhcbanhdaa", sum := "7a6160b4bb54d0a7adb7c0cf19bfa8a737f89bfe2c9031e3f716810ad09cd70e", func := "sculler/scullerlaw14.TokenForm", spec := "tokenForm", unfollowed := true, recurses := true, apart := false, narrowed := true }
def TokenFormUptoSaid : Prop := tokenFormUptoRow.holds Try.pinned (OpenSpec.upto tokenFormSpec)

/-- 'scullerlaw14.TokenCut', WHERE WHAT IT READS IS OF BULK AT MOST 1048576: true; the input reads as it did. -/
def tokenCutUptoRow : OpenClaim := { program := "ytbijnfhcbanhdaa", sum := "7a6160b4bb54d0a7adb7c0cf19bfa8a737f89bfe2c9031e3f716810ad09cd70e", func := "sculler/scullerlaw14.TokenCut", spec := "tokenCut", unfollowed := true, recurses := true, apart := false, narrowed := true }
def TokenCutUptoSaid : Prop := tokenCutUptoRow.holds Try.pinned (OpenSpec.upto tokenCutSpec)

/-- 'scullerlaw15.KeepToken', WHERE WHAT IT READS IS OF BULK AT MOST 1048576: true; the input reads as it did. -/
def keepTokenUptoRow : OpenClaim := { program := "ytbijnfhcbanhdaa", sum := "7a6160b4bb54d0a7adb7c0cf19bfa8a737f89bfe2c9031e3f716810ad09cd70e", func := "sculler/scullerlaw15.KeepToken", spec := "keepToken", inPlace := ["maps.clone"], unfollowed := true, recurses := true, apart := false, narrowed := true }
def KeepTokenUptoSaid : Prop := keepTokenUptoRow.holds Try.pinned (OpenSpec.upto keepTokenSpec)

/-- 'scullerlaw15.KeepDoes', WHERE WHAT IT READS IS OF BULK AT MOST 1048576: true; the input reads as it did. -/
def keepDoesUptoRow : OpenClaim := { program := "ytbijnfhcbanhdaa", sum := "7a6160b4bb54d0a7adb7c0cf19bfa8a737f89bfe2c9031e3f716810ad09cd70e", func := "sculler/scullerlaw15.KeepDoes", spec := "keepDoes", inPlace := ["maps.clone"], unfollowed := true, recurses := true, apart := false, narrowed := true }
def KeepDoesUptoSaid : Prop := keepDoesUptoRow.holds Try.pinned (OpenSpec.upto keepDoesSpec)

end Rows
end Go.Proofs.Ytbijnfhcbanhdaa
