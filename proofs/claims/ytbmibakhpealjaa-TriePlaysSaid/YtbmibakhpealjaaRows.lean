/-
  No cell of these rows narrows 'for every input' (looked for: loops, veiled, ifaces, maps, wideKeys, modest, calm, conditions, laid).
  DERIVED. THE GIVEN ROWS OF THIS SEAT. 4 by the template 'for every input the law returns true; each argument reads behind the call as it read before'; 0 by the template 'total and deterministic' (their statements: YtbmibakhpealjaaTotals.lean).
  GIVEN WITH THE SEED: the statements are not yours to turn. If you find one false, say at which input.
  Laid BY PROGRAM, IN A SANDBOX (cutbox-rows.mjs): the forced cells as the released guide's own fill.sh prints them over the translation e30bc9272bad0a3c… (all of the seat's roots in one cut). By AI agents, Wed Nov 11 2026. No macro, syntax, notation, axiom, sorry.
-/
import Derived.Test.YtbmibakhpealjaaChecked
import GoSem.Claim
import GoSem.ClaimJoined
import GoSem.ClaimMapViews
import Derived.JoinedTies
import Derived.KernelRfl
namespace Go.Proofs.Ytbmibakhpealjaa
/- THE CELL 'sum', in the pinned program and in every row, IS THE sha256 OF THE DUMP (.gsa) THAT YtbmibakhpealjaaProg.lean LOADS. Nothing in Lean hashes anything: it is a label: what it is worth is what the hold of that sum in a sandbox is worth. -/
noncomputable def Try.pinned : Pinned := { name := "ytbmibakhpealjaa", sum := "e30bc9272bad0a3c92a78955ae5adf344c6dc5a9868f528f71d1df82ce6a81b6", checked := Try.checked }
namespace Rows
def none {H : Type} : Left H := { results := [], args := [] }

/-- 'crossbucklaw10.TrieMoves': WHATEVER THE INPUT: true; the input reads as it did. -/
def trieMovesSpec : ChangeSpec := { name := "trieMoves", fn := fun _ => fun
  | [d1, d2] => { results := [.lit (.bool true)], args := [d1, d2] }
  | _ => none }
def trieMovesRow : OpenClaim := { program := "ytbmibakhpealjaa", sum := "e30bc9272bad0a3c92a78955ae5adf344c6dc5a9868f528f71d1df82ce6a81b6", func := "crossbuck/crossbucklaw10.TrieMoves", spec := "trieMoves", inPlace := ["slices.overlaps[int]"], unfollowed := true, recurses := true, apart := false }
def TrieMovesSaid : Prop := trieMovesRow.holds Try.pinned (OpenSpec.ofChange trieMovesSpec)

/-- ITS FALSE NEIGHBOUR: 'it returns false'. Refute it at one input. -/
def trieMovesWrong : ChangeSpec := { name := "trieMoves", fn := fun _ => fun
  | [d1, d2] => { results := [.lit (.bool false)], args := [d1, d2] }
  | _ => none }
def TrieMovesWrongFalsely : Prop := trieMovesRow.holds Try.pinned (OpenSpec.ofChange trieMovesWrong)

/-- 'crossbucklaw10.TrieWidest': WHATEVER THE INPUT: true; the input reads as it did. -/
def trieWidestSpec : ChangeSpec := { name := "trieWidest", fn := fun _ => fun
  | [d1, d2] => { results := [.lit (.bool true)], args := [d1, d2] }
  | _ => none }
def trieWidestRow : OpenClaim := { program := "ytbmibakhpealjaa", sum := "e30bc9272bad0a3c92a78955ae5adf344c6dc5a9868f528f71d1df82ce6a81b6", func := "crossbuck/crossbucklaw10.TrieWidest", spec := "trieWidest", inPlace := ["slices.overlaps[int]"], unfollowed := true, recurses := true, apart := false }
def TrieWidestSaid : Prop := trieWidestRow.holds Try.pinned (OpenSpec.ofChange trieWidestSpec)

/-- ITS FALSE NEIGHBOUR: 'it returns false'. Refute it at one input. -/
def trieWidestWrong : ChangeSpec := { name := "trieWidest", fn := fun _ => fun
  | [d1, d2] => { results := [.lit (.bool false)], args := [d1, d2] }
  | _ => none }
def TrieWidestWrongFalsely : Prop := trieWidestRow.holds Try.pinned (OpenSpec.ofChange trieWidestWrong)

/-- 'crossbucklaw10.TrieBack': WHATEVER THE INPUT: true; the input reads as it did. -/
def trieBackSpec : ChangeSpec := { name := "trieBack", fn := fun _ => fun
  | [d1, d2, d3] => { results := [.lit (.bool true)], args := [d1, d2, d3] }
  | _ => none }
def trieBackRow : OpenClaim := { program := "ytbmibakhpealjaa", sum := "e30bc9272bad0a3c92a78955ae5adf344c6dc5a9868f528f71d1df82ce6a81b6", func := "crossbuck/crossbucklaw10.TrieBack", spec := "trieBack", inPlace := ["slices.overlaps[int]"], unfollowed := true, recurses := true, apart := false }
def TrieBackSaid : Prop := trieBackRow.holds Try.pinned (OpenSpec.ofChange trieBackSpec)

/-- ITS FALSE NEIGHBOUR: 'it returns false'. Refute it at one input. -/
def trieBackWrong : ChangeSpec := { name := "trieBack", fn := fun _ => fun
  | [d1, d2, d3] => { results := [.lit (.bool false)], args := [d1, d2, d3] }
  | _ => none }
def TrieBackWrongFalsely : Prop := trieBackRow.holds Try.pinned (OpenSpec.ofChange trieBackWrong)

/-- 'crossbucklaw10.TriePlays': WHATEVER THE INPUT: true; the input reads as it did. -/
def triePlaysSpec : ChangeSpec := { name := "triePlays", fn := fun _ => fun
  | [d1, d2, d3] => { results := [.lit (.bool true)], args := [d1, d2, d3] }
  | _ => none }
def triePlaysRow : OpenClaim := { program := "ytbmibakhpealjaa", sum := "e30bc9272bad0a3c92a78955ae5adf344c6dc5a9868f528f71d1df82ce6a81b6", func := "crossbuck/crossbucklaw10.TriePlays", spec := "triePlays", inPlace := ["slices.overlaps[int]"], unfollowed := true, recurses := true, apart := false }
def TriePlaysSaid : Prop := triePlaysRow.holds Try.pinned (OpenSpec.ofChange triePlaysSpec)

/-- ITS FALSE NEIGHBOUR: 'it returns false'. Refute it at one input. -/
def triePlaysWrong : ChangeSpec := { name := "triePlays", fn := fun _ => fun
  | [d1, d2, d3] => { results := [.lit (.bool false)], args := [d1, d2, d3] }
  | _ => none }
def TriePlaysWrongFalsely : Prop := triePlaysRow.holds Try.pinned (OpenSpec.ofChange triePlaysWrong)

/- THE SECOND FORM. 'bulk': how many values and letters a reading holds, each counted each time it is reached (what is shared counts as often as it is met; a slice's spare places count too). A statement '..UptoSaid' is the law's where the arguments, and the package variables that the reading takes, are together of bulk at most 1048576: NARROWER than '..Said'. Prove '..Said' where nothing that the law and all that it calls make is longer than what came in: it says more and counts as full. Else prove '..UptoSaid'. A law counts once. -/
mutual
def uptoBulk {H : Type} : DataW H → Nat
  | .lit (.string bytes) => bytes.length + 1
  | .lit _ => 1
  | .nil => 1
  | .ptr d => uptoBulk d + 1
  | .slice elems spare => uptoBulkAll elems + uptoBulkAll spare + 1
  | .agg parts => uptoBulkAll parts + 1
  | .iface _ d => uptoBulk d + 1
  | .map entries => uptoBulkEntries entries + 1
  | .held _ => 1
def uptoBulkAll {H : Type} : List (DataW H) → Nat
  | [] => 0
  | d :: r => uptoBulk d + uptoBulkAll r
def uptoBulkEntries {H : Type} : List (Lit × DataW H) → Nat
  | [] => 0
  | x :: r => uptoBulkEntry x + uptoBulkEntries r
def uptoBulkEntry {H : Type} : Lit × DataW H → Nat
  | (.string bytes, d) => bytes.length + uptoBulk d + 1
  | (_, d) => uptoBulk d + 1
 end
def uptoSmall : (H : Type) → List (DataW H) → Bool := fun _ ds => decide (uptoBulkAll ds ≤ 1048576)
def OpenSpec.upto (s : _root_.Go.ChangeSpec) : _root_.Go.OpenSpec := { _root_.Go.OpenSpec.ofChange s with cond := some uptoSmall }

/-- 'crossbucklaw10.TrieMoves', WHERE WHAT IT READS IS OF BULK AT MOST 1048576: true; the input reads as it did. -/
def trieMovesUptoRow : OpenClaim := { program := "ytbmibakhpealjaa", sum := "e30bc9272bad0a3c92a78955ae5adf344c6dc5a9868f528f71d1df82ce6a81b6", func := "crossbuck/crossbucklaw10.TrieMoves", spec := "trieMoves", inPlace := ["slices.overlaps[int]"], unfollowed := true, recurses := true, apart := false, narrowed := true }
def TrieMovesUptoSaid : Prop := trieMovesUptoRow.holds Try.pinned (OpenSpec.upto trieMovesSpec)

/-- 'crossbucklaw10.TrieWidest', WHERE WHAT IT READS IS OF BULK AT MOST 1048576: true; the input reads as it did. -/
def trieWidestUptoRow : OpenClaim := { program := "ytbmibakhpealjaa", sum := "e30bc9272bad0a3c92a78955ae5adf344c6dc5a9868f528f71d1df82ce6a81b6", func := "crossbuck/crossbucklaw10.TrieWidest", spec := "trieWidest", inPlace := ["slices.overlaps[int]"], unfollowed := true, recurses := true, apart := false, narrowed := true }
def TrieWidestUptoSaid : Prop := trieWidestUptoRow.holds Try.pinned (OpenSpec.upto trieWidestSpec)

/-- 'crossbucklaw10.TrieBack', WHERE WHAT IT READS IS OF BULK AT MOST 1048576: true; the input reads as it did. -/
def trieBackUptoRow : OpenClaim := { program := "ytbmibakhpealjaa", sum := "e30bc9272bad0a3c92a78955ae5adf344c6dc5a9868f528f71d1df82ce6a81b6", func := "crossbuck/crossbucklaw10.TrieBack", spec := "trieBack", inPlace := ["slices.overlaps[int]"], unfollowed := true, recurses := true, apart := false, narrowed := true }
def TrieBackUptoSaid : Prop := trieBackUptoRow.holds Try.pinned (OpenSpec.upto trieBackSpec)

/-- 'crossbucklaw10.TriePlays', WHERE WHAT IT READS IS OF BULK AT MOST 1048576: true; the input reads as it did. -/
def triePlaysUptoRow : OpenClaim := { program := "ytbmibakhpealjaa", sum := "e30bc9272bad0a3c92a78955ae5adf344c6dc5a9868f528f71d1df82ce6a81b6", func := "crossbuck/crossbucklaw10.TriePlays", spec := "triePlays", inPlace := ["slices.overlaps[int]"], unfollowed := true, recurses := true, apart := false, narrowed := true }
def TriePlaysUptoSaid : Prop := triePlaysUptoRow.holds Try.pinned (OpenSpec.upto triePlaysSpec)

end Rows
end Go.Proofs.Ytbmibakhpealjaa
