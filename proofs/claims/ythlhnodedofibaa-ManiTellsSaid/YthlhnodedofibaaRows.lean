/-
  No cell of these rows narrows 'for every input' (looked for: loops, veiled, ifaces, maps, wideKeys, modest, calm, conditions, laid).
  DERIVED. THE GIVEN ROWS OF THIS SEAT. 9 by the template 'for every input the law returns true; each argument reads behind the call as it read before'; 0 by the template 'total and deterministic' (their statements: YthlhnodedofibaaTotals.lean).
  GIVEN WITH THE SEED: the statements are not yours to turn. If you find one false, say at which input.
  Laid BY PROGRAM, IN A SANDBOX (cutbox-rows.mjs): the forced cells as the released guide's own fill.sh prints them over the translation f9aa026d5a45be7f… (all of the seat's roots in one cut). By AI agents, Wed Nov 11 2026. No macro, syntax, notation, axiom, sorry.
-/
import Derived.Test.YthlhnodedofibaaChecked
import GoSem.Claim
import GoSem.ClaimJoined
import GoSem.ClaimMapViews
import Derived.JoinedTies
import Derived.KernelRfl
namespace Go.Proofs.Ythlhnodedofibaa
/- THE CELL 'sum', in the pinned program and in every row, IS THE sha256 OF THE DUMP (.gsa) THAT YthlhnodedofibaaProg.lean LOADS. Nothing in Lean hashes anything: it is a label: what it is worth is what the hold of that sum in a sandbox is worth. -/
noncomputable def Try.pinned : Pinned := { name := "ythlhnodedofibaa", sum := "f9aa026d5a45be7fb285f5be5dc0d323f5739ca0347061c89109b395e32633a9", checked := Try.checked }
namespace Rows
def none {H : Type} : Left H := { results := [], args := [] }

/-- 'scullerlaw07.ArenaCuts': WHATEVER THE INPUT: true; the input reads as it did. -/
def arenaCutsSpec : ChangeSpec := { name := "arenaCuts", fn := fun _ => fun
  | [d1, d2, d3, d4] => { results := [.lit (.bool true)], args := [d1, d2, d3, d4] }
  | _ => none }
def arenaCutsRow : OpenClaim := { program := "ythlhnodedofibaa", sum := "f9aa026d5a45be7fb285f5be5dc0d323f5739ca0347061c89109b395e32633a9", func := "sculler/scullerlaw07.ArenaCuts", spec := "arenaCuts", unfollowed := true, recurses := true, apart := false }
def ArenaCutsSaid : Prop := arenaCutsRow.holds Try.pinned (OpenSpec.ofChange arenaCutsSpec)

/-- ITS FALSE NEIGHBOUR: 'it returns false'. Refute it at one input. -/
def arenaCutsWrong : ChangeSpec := { name := "arenaCuts", fn := fun _ => fun
  | [d1, d2, d3, d4] => { results := [.lit (.bool false)], args := [d1, d2, d3, d4] }
  | _ => none }
def ArenaCutsWrongFalsely : Prop := arenaCutsRow.holds Try.pinned (OpenSpec.ofChange arenaCutsWrong)

/-- 'scullerlaw07.ArenaSpoil': WHATEVER THE INPUT: true; the input reads as it did. -/
def arenaSpoilSpec : ChangeSpec := { name := "arenaSpoil", fn := fun _ => fun
  | [d1, d2] => { results := [.lit (.bool true)], args := [d1, d2] }
  | _ => none }
def arenaSpoilRow : OpenClaim := { program := "ythlhnodedofibaa", sum := "f9aa026d5a45be7fb285f5be5dc0d323f5739ca0347061c89109b395e32633a9", func := "sculler/scullerlaw07.ArenaSpoil", spec := "arenaSpoil", unfollowed := true, recurses := true, apart := false }
def ArenaSpoilSaid : Prop := arenaSpoilRow.holds Try.pinned (OpenSpec.ofChange arenaSpoilSpec)

/-- ITS FALSE NEIGHBOUR: 'it returns false'. Refute it at one input. -/
def arenaSpoilWrong : ChangeSpec := { name := "arenaSpoil", fn := fun _ => fun
  | [d1, d2] => { results := [.lit (.bool false)], args := [d1, d2] }
  | _ => none }
def ArenaSpoilWrongFalsely : Prop := arenaSpoilRow.holds Try.pinned (OpenSpec.ofChange arenaSpoilWrong)

/-- 'scullerlaw07.ArenaMost': WHATEVER THE INPUT: true; the input reads as it did. -/
def arenaMostSpec : ChangeSpec := { name := "arenaMost", fn := fun _ => fun
  | [d1, d2] => { results := [.lit (.bool true)], args := [d1, d2] }
  | _ => none }
def arenaMostRow : OpenClaim := { program := "ythlhnodedofibaa", sum := "f9aa026d5a45be7fb285f5be5dc0d323f5739ca0347061c89109b395e32633a9", func := "sculler/scullerlaw07.ArenaMost", spec := "arenaMost", unfollowed := true, recurses := true, apart := false }
def ArenaMostSaid : Prop := arenaMostRow.holds Try.pinned (OpenSpec.ofChange arenaMostSpec)

/-- ITS FALSE NEIGHBOUR: 'it returns false'. Refute it at one input. -/
def arenaMostWrong : ChangeSpec := { name := "arenaMost", fn := fun _ => fun
  | [d1, d2] => { results := [.lit (.bool false)], args := [d1, d2] }
  | _ => none }
def ArenaMostWrongFalsely : Prop := arenaMostRow.holds Try.pinned (OpenSpec.ofChange arenaMostWrong)

/-- 'scullerlaw12.ManiTells': WHATEVER THE INPUT: true; the input reads as it did. -/
def maniTellsSpec : ChangeSpec := { name := "maniTells", fn := fun _ => fun
  | [d1, d2, d3, d4, d5, d6, d7, d8] => { results := [.lit (.bool true)], args := [d1, d2, d3, d4, d5, d6, d7, d8] }
  | _ => none }
def maniTellsRow : OpenClaim := { program := "ythlhnodedofibaa", sum := "f9aa026d5a45be7fb285f5be5dc0d323f5739ca0347061c89109b395e32633a9", func := "sculler/scullerlaw12.ManiTells", spec := "maniTells", unfollowed := true, recurses := true, apart := false }
def ManiTellsSaid : Prop := maniTellsRow.holds Try.pinned (OpenSpec.ofChange maniTellsSpec)

/-- ITS FALSE NEIGHBOUR: 'it returns false'. Refute it at one input. -/
def maniTellsWrong : ChangeSpec := { name := "maniTells", fn := fun _ => fun
  | [d1, d2, d3, d4, d5, d6, d7, d8] => { results := [.lit (.bool false)], args := [d1, d2, d3, d4, d5, d6, d7, d8] }
  | _ => none }
def ManiTellsWrongFalsely : Prop := maniTellsRow.holds Try.pinned (OpenSpec.ofChange maniTellsWrong)

/-- 'scullerlaw12.ManiMost': WHATEVER THE INPUT: true; the input reads as it did. -/
def maniMostSpec : ChangeSpec := { name := "maniMost", fn := fun _ => fun
  | [d1, d2] => { results := [.lit (.bool true)], args := [d1, d2] }
  | _ => none }
def maniMostRow : OpenClaim := { program := "ythlhnodedofibaa", sum := "f9aa026d5a45be7fb285f5be5dc0d323f5739ca0347061c89109b395e32633a9", func := "sculler/scullerlaw12.ManiMost", spec := "maniMost", unfollowed := true, recurses := true, apart := false }
def ManiMostSaid : Prop := maniMostRow.holds Try.pinned (OpenSpec.ofChange maniMostSpec)

/-- ITS FALSE NEIGHBOUR: 'it returns false'. Refute it at one input. -/
def maniMostWrong : ChangeSpec := { name := "maniMost", fn := fun _ => fun
  | [d1, d2] => { results := [.lit (.bool false)], args := [d1, d2] }
  | _ => none }
def ManiMostWrongFalsely : Prop := maniMostRow.holds Try.pinned (OpenSpec.ofChange maniMostWrong)

/-- 'scullerlaw07.ArenaBack': WHATEVER THE INPUT: true; the input reads as it did. -/
def arenaBackSpec : ChangeSpec := { name := "arenaBack", fn := fun _ => fun
  | [d1, d2, d3, d4] => { results := [.lit (.bool true)], args := [d1, d2, d3, d4] }
  | _ => none }
def arenaBackRow : OpenClaim := { program := "ythlhnodedofibaa", sum := "f9aa026d5a45be7fb285f5be5dc0d323f5739ca0347061c89109b395e32633a9", func := "sculler/scullerlaw07.ArenaBack", spec := "arenaBack", unfollowed := true, recurses := true, apart := false }
def ArenaBackSaid : Prop := arenaBackRow.holds Try.pinned (OpenSpec.ofChange arenaBackSpec)

/-- ITS FALSE NEIGHBOUR: 'it returns false'. Refute it at one input. -/
def arenaBackWrong : ChangeSpec := { name := "arenaBack", fn := fun _ => fun
  | [d1, d2, d3, d4] => { results := [.lit (.bool false)], args := [d1, d2, d3, d4] }
  | _ => none }
def ArenaBackWrongFalsely : Prop := arenaBackRow.holds Try.pinned (OpenSpec.ofChange arenaBackWrong)

/-- 'scullerlaw12.ManiOrder': WHATEVER THE INPUT: true; the input reads as it did. -/
def maniOrderSpec : ChangeSpec := { name := "maniOrder", fn := fun _ => fun
  | [d1, d2, d3, d4] => { results := [.lit (.bool true)], args := [d1, d2, d3, d4] }
  | _ => none }
def maniOrderRow : OpenClaim := { program := "ythlhnodedofibaa", sum := "f9aa026d5a45be7fb285f5be5dc0d323f5739ca0347061c89109b395e32633a9", func := "sculler/scullerlaw12.ManiOrder", spec := "maniOrder", unfollowed := true, recurses := true, apart := false }
def ManiOrderSaid : Prop := maniOrderRow.holds Try.pinned (OpenSpec.ofChange maniOrderSpec)

/-- ITS FALSE NEIGHBOUR: 'it returns false'. Refute it at one input. -/
def maniOrderWrong : ChangeSpec := { name := "maniOrder", fn := fun _ => fun
  | [d1, d2, d3, d4] => { results := [.lit (.bool false)], args := [d1, d2, d3, d4] }
  | _ => none }
def ManiOrderWrongFalsely : Prop := maniOrderRow.holds Try.pinned (OpenSpec.ofChange maniOrderWrong)

/-- 'scullerlaw12.ManiCuts': WHATEVER THE INPUT: true; the input reads as it did. -/
def maniCutsSpec : ChangeSpec := { name := "maniCuts", fn := fun _ => fun
  | [d1, d2, d3, d4, d5, d6, d7, d8] => { results := [.lit (.bool true)], args := [d1, d2, d3, d4, d5, d6, d7, d8] }
  | _ => none }
def maniCutsRow : OpenClaim := { program := "ythlhnodedofibaa", sum := "f9aa026d5a45be7fb285f5be5dc0d323f5739ca0347061c89109b395e32633a9", func := "sculler/scullerlaw12.ManiCuts", spec := "maniCuts", unfollowed := true, recurses := true, apart := false }
def ManiCutsSaid : Prop := maniCutsRow.holds Try.pinned (OpenSpec.ofChange maniCutsSpec)

/-- ITS FALSE NEIGHBOUR: 'it returns false'. Refute it at one input. -/
def maniCutsWrong : ChangeSpec := { name := "maniCuts", fn := fun _ => fun
  | [d1, d2, d3, d4, d5, d6, d7, d8] => { results := [.lit (.bool false)], args := [d1, d2, d3, d4, d5, d6, d7, d8] }
  | _ => none }
def ManiCutsWrongFalsely : Prop := maniCutsRow.holds Try.pinned (OpenSpec.ofChange maniCutsWrong)

/-- 'scullerlaw12.ManiWhole': WHATEVER THE INPUT: true; the input reads as it did. -/
def maniWholeSpec : ChangeSpec := { name := "maniWhole", fn := fun _ => fun
  | [d1, d2, d3, d4] => { results := [.lit (.bool true)], args := [d1, d2, d3, d4] }
  | _ => none }
def maniWholeRow : OpenClaim := { program := "ythlhnodedofibaa", sum := "f9aa026d5a45be7fb285f5be5dc0d323f5739ca0347061c89109b395e32633a9", func := "sculler/scullerlaw12.ManiWhole", spec := "maniWhole", unfollowed := true, recurses := true, apart := false }
def ManiWholeSaid : Prop := maniWholeRow.holds Try.pinned (OpenSpec.ofChange maniWholeSpec)

/-- ITS FALSE NEIGHBOUR: 'it returns false'. Refute it at one input. -/
def maniWholeWrong : ChangeSpec := { name := "maniWhole", fn := fun _ => fun
  | [d1, d2, d3, d4] => { results := [.lit (.bool false)], args := [d1, d2, d3, d4] }
  | _ => none }
def ManiWholeWrongFalsely : Prop := maniWholeRow.holds Try.pinned (OpenSpec.ofChange maniWholeWrong)

/- THE SECOND FORM. 'bulk': how many values and letters a reading holds, each counted each time it is reached (what is shared counts as often as it is met; a slice's spare places count too). A statement '..UptoSaid' is the law's where the arguments, and the package variables that the reading takes, are together of bulk at most 1048576: NARROWER than '..Said'. Prove '..Said' where nothing that the law and all that it calls make is longer than what came in: it says more and counts as full. Else prove '..UptoSaid'. A law counts once. -/
mutual
def uptoBulk {H : Type} : DataW H → Nat
  | .lit (.string bytes) => bytes.length + 1
  | .lit _ => 1
  | .nil => 1
  | .ptr d => uptoBulk d + 1
  | .slice elems spare => uptoBulkAll elems + uptoBulkAll spare + 1
  | .agg parts => uptoBulkAll parts + 1
  | .iface _ d => uptoBulk d + 1
  | .map entries => uptoBulkEntries entries + 1
  | .held _ => 1
def uptoBulkAll {H : Type} : List (DataW H) → Nat
  | [] => 0
  | d :: r => uptoBulk d + uptoBulkAll r
def uptoBulkEntries {H : Type} : List (Lit × DataW H) → Nat
  | [] => 0
  | x :: r => uptoBulkEntry x + uptoBulkEntries r
def uptoBulkEntry {H : Type} : Lit × DataW H → Nat
  | (.string bytes, d) => bytes.length + uptoBulk d + 1
  | (_, d) => uptoBulk d + 1
 end
def uptoSmall : (H : Type) → List (DataW H) → Bool := fun _ ds => decide (uptoBulkAll ds ≤ 1048576)
def OpenSpec.upto (s : _root_.Go.ChangeSpec) : _root_.Go.OpenSpec := { _root_.Go.OpenSpec.ofChange s with cond := some uptoSmall }

/-- 'scullerlaw07.ArenaCuts', WHERE WHAT IT READS IS OF BULK AT MOST 1048576: true; the input reads as it did. -/
def arenaCutsUptoRow : OpenClaim := { program := "ythlhnodedofibaa", sum := "f9aa026d5a45be7fb285f5be5dc0d323f5739ca0347061c89109b395e32633a9", func := "sculler/scullerlaw07.ArenaCuts", spec := "arenaCuts", unfollowed := true, recurses := true, apart := false, narrowed := true }
def ArenaCutsUptoSaid : Prop := arenaCutsUptoRow.holds Try.pinned (OpenSpec.upto arenaCutsSpec)

/-- 'scullerlaw07.ArenaSpoil', WHERE WHAT IT READS IS OF BULK AT MOST 1048576: true; the input reads as it did. -/
def arenaSpoilUptoRow : OpenClaim := { program := "ythlhnodedofibaa", sum := "f9aa026d5a45be7fb285f5be5dc0d323f5739ca0347061c89109b395e32633a9", func := "sculler/scullerlaw07.ArenaSpoil", spec := "arenaSpoil", unfollowed := true, recurses := true, apart := false, narrowed := true }
def ArenaSpoilUptoSaid : Prop := arenaSpoilUptoRow.holds Try.pinned (OpenSpec.upto arenaSpoilSpec)

/-- 'scullerlaw07.ArenaMost', WHERE WHAT IT READS IS OF BULK AT MOST 1048576: true; the input reads as it did. -/
def arenaMostUptoRow : OpenClaim := { program := "ythlhnodedofibaa", sum := "f9aa026d5a45be7fb285f5be5dc0d323f5739ca0347061c89109b395e32633a9", func := "sculler/scullerlaw07.ArenaMost", spec := "arenaMost", unfollowed := true, recurses := true, apart := false, narrowed := true }
def ArenaMostUptoSaid : Prop := arenaMostUptoRow.holds Try.pinned (OpenSpec.upto arenaMostSpec)

/-- 'scullerlaw12.ManiTells', WHERE WHAT IT READS IS OF BULK AT MOST 1048576: true; the input reads as it did. -/
def maniTellsUptoRow : OpenClaim := { program := "ythlhnodedofibaa", sum := "f9aa026d5a45be7fb285f5be5dc0d323f5739ca0347061c89109b395e32633a9", func := "sculler/scullerlaw12.ManiTells", spec := "maniTells", unfollowed := true, recurses := true, apart := false, narrowed := true }
def ManiTellsUptoSaid : Prop := maniTellsUptoRow.holds Try.pinned (OpenSpec.upto maniTellsSpec)

/-- 'scullerlaw12.ManiMost', WHERE WHAT IT READS IS OF BULK AT MOST 1048576: true; the input reads as it did. -/
def maniMostUptoRow : OpenClaim := { program := "ythlhnodedofibaa", sum := "f9aa026d5a45be7fb285f5be5dc0d323f5739ca0347061c89109b395e32633a9", func := "sculler/scullerlaw12.ManiMost", spec := "maniMost", unfollowed := true, recurses := true, apart := false, narrowed := true }
def ManiMostUptoSaid : Prop := maniMostUptoRow.holds Try.pinned (OpenSpec.upto maniMostSpec)

/-- 'scullerlaw07.ArenaBack', WHERE WHAT IT READS IS OF BULK AT MOST 1048576: true; the input reads as it did. -/
def arenaBackUptoRow : OpenClaim := { program := "ythlhnodedofibaa", sum := "f9aa026d5a45be7fb285f5be5dc0d323f5739ca0347061c89109b395e32633a9", func := "sculler/scullerlaw07.ArenaBack", spec := "arenaBack", unfollowed := true, recurses := true, apart := false, narrowed := true }
def ArenaBackUptoSaid : Prop := arenaBackUptoRow.holds Try.pinned (OpenSpec.upto arenaBackSpec)

/-- 'scullerlaw12.ManiOrder', WHERE WHAT IT READS IS OF BULK AT MOST 1048576: true; the input reads as it did. -/
def maniOrderUptoRow : OpenClaim := { program := "ythlhnodedofibaa", sum := "f9aa026d5a45be7fb285f5be5dc0d323f5739ca0347061c89109b395e32633a9", func := "sculler/scullerlaw12.ManiOrder", spec := "maniOrder", unfollowed := true, recurses := true, apart := false, narrowed := true }
def ManiOrderUptoSaid : Prop := maniOrderUptoRow.holds Try.pinned (OpenSpec.upto maniOrderSpec)

/-- 'scullerlaw12.ManiCuts', WHERE WHAT IT READS IS OF BULK AT MOST 1048576: true; the input reads as it did. -/
def maniCutsUptoRow : OpenClaim := { program := "ythlhnodedofibaa", sum := "f9aa026d5a45be7fb285f5be5dc0d323f5739ca0347061c89109b395e32633a9", func := "sculler/scullerlaw12.ManiCuts", spec := "maniCuts", unfollowed := true, recurses := true, apart := false, narrowed := true }
def ManiCutsUptoSaid : Prop := maniCutsUptoRow.holds Try.pinned (OpenSpec.upto maniCutsSpec)

/-- 'scullerlaw12.ManiWhole', WHERE WHAT IT READS IS OF BULK AT MOST 1048576: true; the input reads as it did. -/
def maniWholeUptoRow : OpenClaim := { program := "ythlhnodedofibaa", sum := "f9aa026d5a45be7fb285f5be5dc0d323f5739ca0347061c89109b395e32633a9", func := "sculler/scullerlaw12.ManiWhole", spec := "maniWhole", unfollowed := true, recurses := true, apart := false, narrowed := true }
def ManiWholeUptoSaid : Prop := maniWholeUptoRow.holds Try.pinned (OpenSpec.upto maniWholeSpec)

end Rows
end Go.Proofs.Ythlhnodedofibaa
