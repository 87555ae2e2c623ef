/-
  No cell of these rows narrows 'for every input' (looked for: loops, veiled, ifaces, maps, wideKeys, modest, calm, conditions, laid).
  DERIVED. THE GIVEN ROWS OF THIS SEAT. 8 by the template 'for every input the law returns true; each argument reads behind the call as it read before'; 0 by the template 'total and deterministic' (their statements: YtdemogdagemagaaTotals.lean).
  GIVEN WITH THE SEED: the statements are not yours to turn. If you find one false, say at which input.
  Laid BY PROGRAM, IN A SANDBOX (cutbox-rows.mjs): the forced cells as the released guide's own fill.sh prints them over the translation 836ded92dbb14c78… (all of the seat's roots in one cut). By AI agents, Wed Nov 11 2026. No macro, syntax, notation, axiom, sorry.
-/
import Derived.Test.YtdemogdagemagaaChecked
import GoSem.Claim
import GoSem.ClaimJoined
import GoSem.ClaimMapViews
import Derived.JoinedTies
import Derived.KernelRfl
namespace Go.Proofs.Ytdemogdagemagaa
/- THE CELL 'sum', in the pinned program and in every row, IS THE sha256 OF THE DUMP (.gsa) THAT YtdemogdagemagaaProg.lean LOADS. Nothing in Lean hashes anything: it is a label: what it is worth is what the hold of that sum in a sandbox is worth. -/
noncomputable def Try.pinned : Pinned := { name := "ytdemogdagemagaa", sum := "836ded92dbb14c78bf0a2a7c9eddb9bfcf83e636e6704968f3a97f6f2380a6ac", checked := Try.checked }
namespace Rows
def none {H : Type} : Left H := { results := [], args := [] }

/-- 'crossbucklaw05.TopoChecks': WHATEVER THE INPUT: true; the input reads as it did. -/
def topoChecksSpec : ChangeSpec := { name := "topoChecks", fn := fun _ => fun
  | [d1, d2, d3] => { results := [.lit (.bool true)], args := [d1, d2, d3] }
  | _ => none }
def topoChecksRow : OpenClaim := { program := "ytdemogdagemagaa", sum := "836ded92dbb14c78bf0a2a7c9eddb9bfcf83e636e6704968f3a97f6f2380a6ac", func := "crossbuck/crossbucklaw05.TopoChecks", spec := "topoChecks", unfollowed := true, recurses := true, plainKeys := false, apart := false }
def TopoChecksSaid : Prop := topoChecksRow.holds Try.pinned (OpenSpec.ofChange topoChecksSpec)

/-- ITS FALSE NEIGHBOUR: 'it returns false'. Refute it at one input. -/
def topoChecksWrong : ChangeSpec := { name := "topoChecks", fn := fun _ => fun
  | [d1, d2, d3] => { results := [.lit (.bool false)], args := [d1, d2, d3] }
  | _ => none }
def TopoChecksWrongFalsely : Prop := topoChecksRow.holds Try.pinned (OpenSpec.ofChange topoChecksWrong)

/-- 'crossbucklaw05.TopoPeers': WHATEVER THE INPUT: true; the input reads as it did. -/
def topoPeersSpec : ChangeSpec := { name := "topoPeers", fn := fun _ => fun
  | [d] => { results := [.lit (.bool true)], args := [d] }
  | _ => none }
def topoPeersRow : OpenClaim := { program := "ytdemogdagemagaa", sum := "836ded92dbb14c78bf0a2a7c9eddb9bfcf83e636e6704968f3a97f6f2380a6ac", func := "crossbuck/crossbucklaw05.TopoPeers", spec := "topoPeers", unfollowed := true, recurses := true, plainKeys := false, apart := false }
def TopoPeersSaid : Prop := topoPeersRow.holds Try.pinned (OpenSpec.ofChange topoPeersSpec)

/-- ITS FALSE NEIGHBOUR: 'it returns false'. Refute it at one input. -/
def topoPeersWrong : ChangeSpec := { name := "topoPeers", fn := fun _ => fun
  | [d] => { results := [.lit (.bool false)], args := [d] }
  | _ => none }
def TopoPeersWrongFalsely : Prop := topoPeersRow.holds Try.pinned (OpenSpec.ofChange topoPeersWrong)

/-- 'crossbucklaw05.TopoFirst': WHATEVER THE INPUT: true; the input reads as it did. -/
def topoFirstSpec : ChangeSpec := { name := "topoFirst", fn := fun _ => fun
  | [d1, d2, d3, d4, d5, d6] => { results := [.lit (.bool true)], args := [d1, d2, d3, d4, d5, d6] }
  | _ => none }
def topoFirstRow : OpenClaim := { program := "ytdemogdagemagaa", sum := "836ded92dbb14c78bf0a2a7c9eddb9bfcf83e636e6704968f3a97f6f2380a6ac", func := "crossbuck/crossbucklaw05.TopoFirst", spec := "topoFirst", unfollowed := true, recurses := true, plainKeys := false, apart := false }
def TopoFirstSaid : Prop := topoFirstRow.holds Try.pinned (OpenSpec.ofChange topoFirstSpec)

/-- ITS FALSE NEIGHBOUR: 'it returns false'. Refute it at one input. -/
def topoFirstWrong : ChangeSpec := { name := "topoFirst", fn := fun _ => fun
  | [d1, d2, d3, d4, d5, d6] => { results := [.lit (.bool false)], args := [d1, d2, d3, d4, d5, d6] }
  | _ => none }
def TopoFirstWrongFalsely : Prop := topoFirstRow.holds Try.pinned (OpenSpec.ofChange topoFirstWrong)

/-- 'crossbucklaw05.TopoCrosses': WHATEVER THE INPUT: true; the input reads as it did. -/
def topoCrossesSpec : ChangeSpec := { name := "topoCrosses", fn := fun _ => fun
  | [d1, d2, d3, d4, d5] => { results := [.lit (.bool true)], args := [d1, d2, d3, d4, d5] }
  | _ => none }
def topoCrossesRow : OpenClaim := { program := "ytdemogdagemagaa", sum := "836ded92dbb14c78bf0a2a7c9eddb9bfcf83e636e6704968f3a97f6f2380a6ac", func := "crossbuck/crossbucklaw05.TopoCrosses", spec := "topoCrosses", unfollowed := true, recurses := true, plainKeys := false, apart := false }
def TopoCrossesSaid : Prop := topoCrossesRow.holds Try.pinned (OpenSpec.ofChange topoCrossesSpec)

/-- ITS FALSE NEIGHBOUR: 'it returns false'. Refute it at one input. -/
def topoCrossesWrong : ChangeSpec := { name := "topoCrosses", fn := fun _ => fun
  | [d1, d2, d3, d4, d5] => { results := [.lit (.bool false)], args := [d1, d2, d3, d4, d5] }
  | _ => none }
def TopoCrossesWrongFalsely : Prop := topoCrossesRow.holds Try.pinned (OpenSpec.ofChange topoCrossesWrong)

/-- 'crossbucklaw18.VersionPlays': WHATEVER THE INPUT: true; the input reads as it did. -/
def versionPlaysSpec : ChangeSpec := { name := "versionPlays", fn := fun _ => fun
  | [d1, d2, d3] => { results := [.lit (.bool true)], args := [d1, d2, d3] }
  | _ => none }
def versionPlaysRow : OpenClaim := { program := "ytdemogdagemagaa", sum := "836ded92dbb14c78bf0a2a7c9eddb9bfcf83e636e6704968f3a97f6f2380a6ac", func := "crossbuck/crossbucklaw18.VersionPlays", spec := "versionPlays", plainKeys := false, apart := false }
def VersionPlaysSaid : Prop := versionPlaysRow.holds Try.pinned (OpenSpec.ofChange versionPlaysSpec)

/-- ITS FALSE NEIGHBOUR: 'it returns false'. Refute it at one input. -/
def versionPlaysWrong : ChangeSpec := { name := "versionPlays", fn := fun _ => fun
  | [d1, d2, d3] => { results := [.lit (.bool false)], args := [d1, d2, d3] }
  | _ => none }
def VersionPlaysWrongFalsely : Prop := versionPlaysRow.holds Try.pinned (OpenSpec.ofChange versionPlaysWrong)

/-- 'crossbucklaw18.VersionHolds': WHATEVER THE INPUT: true; the input reads as it did. -/
def versionHoldsSpec : ChangeSpec := { name := "versionHolds", fn := fun _ => fun
  | [d] => { results := [.lit (.bool true)], args := [d] }
  | _ => none }
def versionHoldsRow : OpenClaim := { program := "ytdemogdagemagaa", sum := "836ded92dbb14c78bf0a2a7c9eddb9bfcf83e636e6704968f3a97f6f2380a6ac", func := "crossbuck/crossbucklaw18.VersionHolds", spec := "versionHolds", plainKeys := false, apart := false }
def VersionHoldsSaid : Prop := versionHoldsRow.holds Try.pinned (OpenSpec.ofChange versionHoldsSpec)

/-- ITS FALSE NEIGHBOUR: 'it returns false'. Refute it at one input. -/
def versionHoldsWrong : ChangeSpec := { name := "versionHolds", fn := fun _ => fun
  | [d] => { results := [.lit (.bool false)], args := [d] }
  | _ => none }
def VersionHoldsWrongFalsely : Prop := versionHoldsRow.holds Try.pinned (OpenSpec.ofChange versionHoldsWrong)

/-- 'crossbucklaw18.VersionNil': WHATEVER THE INPUT: true; the input reads as it did. -/
def versionNilSpec : ChangeSpec := { name := "versionNil", fn := fun _ => fun
  | [d1, d2] => { results := [.lit (.bool true)], args := [d1, d2] }
  | _ => none }
def versionNilRow : OpenClaim := { program := "ytdemogdagemagaa", sum := "836ded92dbb14c78bf0a2a7c9eddb9bfcf83e636e6704968f3a97f6f2380a6ac", func := "crossbuck/crossbucklaw18.VersionNil", spec := "versionNil", plainKeys := false, apart := false }
def VersionNilSaid : Prop := versionNilRow.holds Try.pinned (OpenSpec.ofChange versionNilSpec)

/-- ITS FALSE NEIGHBOUR: 'it returns false'. Refute it at one input. -/
def versionNilWrong : ChangeSpec := { name := "versionNil", fn := fun _ => fun
  | [d1, d2] => { results := [.lit (.bool false)], args := [d1, d2] }
  | _ => none }
def VersionNilWrongFalsely : Prop := versionNilRow.holds Try.pinned (OpenSpec.ofChange versionNilWrong)

/-- 'crossbucklaw18.VersionSees': WHATEVER THE INPUT: true; the input reads as it did. -/
def versionSeesSpec : ChangeSpec := { name := "versionSees", fn := fun _ => fun
  | [d] => { results := [.lit (.bool true)], args := [d] }
  | _ => none }
def versionSeesRow : OpenClaim := { program := "ytdemogdagemagaa", sum := "836ded92dbb14c78bf0a2a7c9eddb9bfcf83e636e6704968f3a97f6f2380a6ac", func := "crossbuck/crossbucklaw18.VersionSees", spec := "versionSees", plainKeys := false, apart := false }
def VersionSeesSaid : Prop := versionSeesRow.holds Try.pinned (OpenSpec.ofChange versionSeesSpec)

/-- ITS FALSE NEIGHBOUR: 'it returns false'. Refute it at one input. -/
def versionSeesWrong : ChangeSpec := { name := "versionSees", fn := fun _ => fun
  | [d] => { results := [.lit (.bool false)], args := [d] }
  | _ => none }
def VersionSeesWrongFalsely : Prop := versionSeesRow.holds Try.pinned (OpenSpec.ofChange versionSeesWrong)

/- THE SECOND FORM. 'bulk': how many values and letters a reading holds, each counted each time it is reached (what is shared counts as often as it is met; a slice's spare places count too). A statement '..UptoSaid' is the law's where the arguments, and the package variables that the reading takes, are together of bulk at most 1048576: NARROWER than '..Said'. Prove '..Said' where nothing that the law and all that it calls make is longer than what came in: it says more and counts as full. Else prove '..UptoSaid'. A law counts once. -/
mutual
def uptoBulk {H : Type} : DataW H → Nat
  | .lit (.string bytes) => bytes.length + 1
  | .lit _ => 1
  | .nil => 1
  | .ptr d => uptoBulk d + 1
  | .slice elems spare => uptoBulkAll elems + uptoBulkAll spare + 1
  | .agg parts => uptoBulkAll parts + 1
  | .iface _ d => uptoBulk d + 1
  | .map entries => uptoBulkEntries entries + 1
  | .held _ => 1
def uptoBulkAll {H : Type} : List (DataW H) → Nat
  | [] => 0
  | d :: r => uptoBulk d + uptoBulkAll r
def uptoBulkEntries {H : Type} : List (Lit × DataW H) → Nat
  | [] => 0
  | x :: r => uptoBulkEntry x + uptoBulkEntries r
def uptoBulkEntry {H : Type} : Lit × DataW H → Nat
  | (.string bytes, d) => bytes.length + uptoBulk d + 1
  | (_, d) => uptoBulk d + 1
 end
def uptoSmall : (H : Type) → List (DataW H) → Bool := fun _ ds => decide (uptoBulkAll ds ≤ 1048576)
def OpenSpec.upto (s : _root_.Go.ChangeSpec) : _root_.Go.OpenSpec := { _root_.Go.OpenSpec.ofChange s with cond := some uptoSmall }

/-- 'crossbucklaw05.TopoChecks', WHERE WHAT IT READS IS OF BULK AT MOST 1048576: true; the input reads as it did. -/
def topoChecksUptoRow : OpenClaim := { program := "ytdemogdagemagaa", sum := "836ded92dbb14c78bf0a2a7c9eddb9bfcf83e636e6704968f3a97f6f2380a6ac", func := "crossbuck/crossbucklaw05.TopoChecks", spec := "topoChecks", unfollowed := true, recurses := true, plainKeys := false, apart := false, narrowed := true }
def TopoChecksUptoSaid : Prop := topoChecksUptoRow.holds Try.pinned (OpenSpec.upto topoChecksSpec)

/-- 'crossbucklaw05.TopoPeers', WHERE WHAT IT READS IS OF BULK AT MOST 1048576: true; the input reads as it did. -/
def topoPeersUptoRow : OpenClaim := { program := "ytdemogdagemagaa", sum := "836ded92dbb14c78bf0a2a7c9eddb9bfcf83e636e6704968f3a97f6f2380a6ac", func := "crossbuck/crossbucklaw05.TopoPeers", spec := "topoPeers", unfollowed := true, recurses := true, plainKeys := false, apart := false, narrowed := true }
def TopoPeersUptoSaid : Prop := topoPeersUptoRow.holds Try.pinned (OpenSpec.upto topoPeersSpec)

/-- 'crossbucklaw05.TopoFirst', WHERE WHAT IT READS IS OF BULK AT MOST 1048576: true; the input reads as it did. -/
def topoFirstUptoRow : OpenClaim := { program := "ytdemogdagemagaa", sum := "836ded92dbb14c78bf0a2a7c9eddb9bfcf83e636e6704968f3a97f6f2380a6ac", func := "crossbuck/crossbucklaw05.TopoFirst", spec := "topoFirst", unfollowed := true, recurses := true, plainKeys := false, apart := false, narrowed := true }
def TopoFirstUptoSaid : Prop := topoFirstUptoRow.holds Try.pinned (OpenSpec.upto topoFirstSpec)

/-- 'crossbucklaw05.TopoCrosses', WHERE WHAT IT READS IS OF BULK AT MOST 1048576: true; the input reads as it did. -/
def topoCrossesUptoRow : OpenClaim := { program := "ytdemogdagemagaa", sum := "836ded92dbb14c78bf0a2a7c9eddb9bfcf83e636e6704968f3a97f6f2380a6ac", func := "crossbuck/crossbucklaw05.TopoCrosses", spec := "topoCrosses", unfollowed := true, recurses := true, plainKeys := false, apart := false, narrowed := true }
def TopoCrossesUptoSaid : Prop := topoCrossesUptoRow.holds Try.pinned (OpenSpec.upto topoCrossesSpec)

/-- 'crossbucklaw18.VersionPlays', WHERE WHAT IT READS IS OF BULK AT MOST 1048576: true; the input reads as it did. -/
def versionPlaysUptoRow : OpenClaim := { program := "ytdemogdagemagaa", sum := "836ded92dbb14c78bf0a2a7c9eddb9bfcf83e636e6704968f3a97f6f2380a6ac", func := "crossbuck/crossbucklaw18.VersionPlays", spec := "versionPlays", plainKeys := false, apart := false, narrowed := true }
def VersionPlaysUptoSaid : Prop := versionPlaysUptoRow.holds Try.pinned (OpenSpec.upto versionPlaysSpec)

/-- 'crossbucklaw18.VersionHolds', WHERE WHAT IT READS IS OF BULK AT MOST 1048576: true; the input reads as it did. -/
def versionHoldsUptoRow : OpenClaim := { program := "ytdemogdagemagaa", sum := "836ded92dbb14c78bf0a2a7c9eddb9bfcf83e636e6704968f3a97f6f2380a6ac", func := "crossbuck/crossbucklaw18.VersionHolds", spec := "versionHolds", plainKeys := false, apart := false, narrowed := true }
def VersionHoldsUptoSaid : Prop := versionHoldsUptoRow.holds Try.pinned (OpenSpec.upto versionHoldsSpec)

/-- 'crossbucklaw18.VersionNil', WHERE WHAT IT READS IS OF BULK AT MOST 1048576: true; the input reads as it did. -/
def versionNilUptoRow : OpenClaim := { program := "ytdemogdagemagaa", sum := "836ded92dbb14c78bf0a2a7c9eddb9bfcf83e636e6704968f3a97f6f2380a6ac", func := "crossbuck/crossbucklaw18.VersionNil", spec := "versionNil", plainKeys := false, apart := false, narrowed := true }
def VersionNilUptoSaid : Prop := versionNilUptoRow.holds Try.pinned (OpenSpec.upto versionNilSpec)

/-- 'crossbucklaw18.VersionSees', WHERE WHAT IT READS IS OF BULK AT MOST 1048576: true; the input reads as it did. -/
def versionSeesUptoRow : OpenClaim := { program := "ytdemogdagemagaa", sum := "836ded92dbb14c78bf0a2a7c9eddb9bfcf83e636e6704968f3a97f6f2380a6ac", func := "crossbuck/crossbucklaw18.VersionSees", spec := "versionSees", plainKeys := false, apart := false, narrowed := true }
def VersionSeesUptoSaid : Prop := versionSeesUptoRow.holds Try.pinned (OpenSpec.upto versionSeesSpec)

end Rows
end Go.Proofs.Ytdemogdagemagaa
