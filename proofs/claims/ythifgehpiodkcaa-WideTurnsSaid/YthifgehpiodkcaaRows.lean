/-
  No cell of these rows narrows 'for every input' (looked for: loops, veiled, ifaces, maps, wideKeys, modest, calm, conditions, laid).
  DERIVED. THE GIVEN ROWS OF THIS SEAT. 5 by the template 'for every input the law returns true; each argument reads behind the call as it read before'; 0 by the template 'total and deterministic' (their statements: YthifgehpiodkcaaTotals.lean).
  GIVEN WITH THE SEED: the statements are not yours to turn. If you find one false, say at which input.
  Laid BY PROGRAM, IN A SANDBOX (cutbox-rows.mjs): the forced cells as the released guide's own fill.sh prints them over the translation 8e4af6c040071c55… (all of the seat's roots in one cut). By AI agents, Wed Nov 11 2026. No macro, syntax, notation, axiom, sorry.
-/
import Derived.Test.YthifgehpiodkcaaChecked
import GoSem.Claim
import GoSem.ClaimJoined
import GoSem.ClaimMapViews
import Derived.JoinedTies
import Derived.KernelRfl
namespace Go.Proofs.Ythifgehpiodkcaa
/- THE CELL 'sum', in the pinned program and in every row, IS THE sha256 OF THE DUMP (.gsa) THAT YthifgehpiodkcaaProg.lean LOADS. Nothing in Lean hashes anything: it is a label: what it is worth is what the hold of that sum in a sandbox is worth. -/
noncomputable def Try.pinned : Pinned := { name := "ythifgehpiodkcaa", sum := "8e4af6c040071c55ec23f5b5e24c9c14b086100d2c4185b6bafe935240185f8e", checked := Try.checked }
namespace Rows
def none {H : Type} : Left H := { results := [], args := [] }

/-- 'crossbucklaw01.WideDigits': WHATEVER THE INPUT: true; the input reads as it did. -/
def wideDigitsSpec : ChangeSpec := { name := "wideDigits", fn := fun _ => fun
  | [d] => { results := [.lit (.bool true)], args := [d] }
  | _ => none }
def wideDigitsRow : OpenClaim := { program := "ythifgehpiodkcaa", sum := "8e4af6c040071c55ec23f5b5e24c9c14b086100d2c4185b6bafe935240185f8e", func := "crossbuck/crossbucklaw01.WideDigits", spec := "wideDigits", inPlace := ["math/bits.Add64"], named := ["math/bits.divideError", "math/bits.overflowError"], apart := false }
def WideDigitsSaid : Prop := wideDigitsRow.holds Try.pinned (OpenSpec.ofChange wideDigitsSpec)

/-- ITS FALSE NEIGHBOUR: 'it returns false'. Refute it at one input. -/
def wideDigitsWrong : ChangeSpec := { name := "wideDigits", fn := fun _ => fun
  | [d] => { results := [.lit (.bool false)], args := [d] }
  | _ => none }
def WideDigitsWrongFalsely : Prop := wideDigitsRow.holds Try.pinned (OpenSpec.ofChange wideDigitsWrong)

/-- 'crossbucklaw01.WideReads': WHATEVER THE INPUT: true; the input reads as it did. -/
def wideReadsSpec : ChangeSpec := { name := "wideReads", fn := fun _ => fun
  | [d] => { results := [.lit (.bool true)], args := [d] }
  | _ => none }
def wideReadsRow : OpenClaim := { program := "ythifgehpiodkcaa", sum := "8e4af6c040071c55ec23f5b5e24c9c14b086100d2c4185b6bafe935240185f8e", func := "crossbuck/crossbucklaw01.WideReads", spec := "wideReads", inPlace := ["math/bits.Add64"], named := ["math/bits.divideError", "math/bits.overflowError"], apart := false }
def WideReadsSaid : Prop := wideReadsRow.holds Try.pinned (OpenSpec.ofChange wideReadsSpec)

/-- ITS FALSE NEIGHBOUR: 'it returns false'. Refute it at one input. -/
def wideReadsWrong : ChangeSpec := { name := "wideReads", fn := fun _ => fun
  | [d] => { results := [.lit (.bool false)], args := [d] }
  | _ => none }
def WideReadsWrongFalsely : Prop := wideReadsRow.holds Try.pinned (OpenSpec.ofChange wideReadsWrong)

/-- 'crossbucklaw01.WideSums': WHATEVER THE INPUT: true; the input reads as it did. -/
def wideSumsSpec : ChangeSpec := { name := "wideSums", fn := fun _ => fun
  | [d1, d2, d3] => { results := [.lit (.bool true)], args := [d1, d2, d3] }
  | _ => none }
def wideSumsRow : OpenClaim := { program := "ythifgehpiodkcaa", sum := "8e4af6c040071c55ec23f5b5e24c9c14b086100d2c4185b6bafe935240185f8e", func := "crossbuck/crossbucklaw01.WideSums", spec := "wideSums", inPlace := ["math/bits.Add64", "math/bits.Sub64"], named := ["math/bits.divideError", "math/bits.overflowError"], apart := false }
def WideSumsSaid : Prop := wideSumsRow.holds Try.pinned (OpenSpec.ofChange wideSumsSpec)

/-- ITS FALSE NEIGHBOUR: 'it returns false'. Refute it at one input. -/
def wideSumsWrong : ChangeSpec := { name := "wideSums", fn := fun _ => fun
  | [d1, d2, d3] => { results := [.lit (.bool false)], args := [d1, d2, d3] }
  | _ => none }
def WideSumsWrongFalsely : Prop := wideSumsRow.holds Try.pinned (OpenSpec.ofChange wideSumsWrong)

/-- 'crossbucklaw01.WideTurns': WHATEVER THE INPUT: true; the input reads as it did. -/
def wideTurnsSpec : ChangeSpec := { name := "wideTurns", fn := fun _ => fun
  | [d1, d2, d3] => { results := [.lit (.bool true)], args := [d1, d2, d3] }
  | _ => none }
def wideTurnsRow : OpenClaim := { program := "ythifgehpiodkcaa", sum := "8e4af6c040071c55ec23f5b5e24c9c14b086100d2c4185b6bafe935240185f8e", func := "crossbuck/crossbucklaw01.WideTurns", spec := "wideTurns", inPlace := ["math/bits.Add64", "math/bits.Sub64"], named := ["math/bits.divideError", "math/bits.overflowError"], apart := false }
def WideTurnsSaid : Prop := wideTurnsRow.holds Try.pinned (OpenSpec.ofChange wideTurnsSpec)

/-- ITS FALSE NEIGHBOUR: 'it returns false'. Refute it at one input. -/
def wideTurnsWrong : ChangeSpec := { name := "wideTurns", fn := fun _ => fun
  | [d1, d2, d3] => { results := [.lit (.bool false)], args := [d1, d2, d3] }
  | _ => none }
def WideTurnsWrongFalsely : Prop := wideTurnsRow.holds Try.pinned (OpenSpec.ofChange wideTurnsWrong)

/-- 'crossbucklaw01.WidePowers': WHATEVER THE INPUT: true; the input reads as it did. -/
def widePowersSpec : ChangeSpec := { name := "widePowers", fn := fun _ => fun
  | [d] => { results := [.lit (.bool true)], args := [d] }
  | _ => none }
def widePowersRow : OpenClaim := { program := "ythifgehpiodkcaa", sum := "8e4af6c040071c55ec23f5b5e24c9c14b086100d2c4185b6bafe935240185f8e", func := "crossbuck/crossbucklaw01.WidePowers", spec := "widePowers", inPlace := ["math/bits.Sub64", "math/bits.Add64"], named := ["math/bits.divideError", "math/bits.overflowError"], apart := false }
def WidePowersSaid : Prop := widePowersRow.holds Try.pinned (OpenSpec.ofChange widePowersSpec)

/-- ITS FALSE NEIGHBOUR: 'it returns false'. Refute it at one input. -/
def widePowersWrong : ChangeSpec := { name := "widePowers", fn := fun _ => fun
  | [d] => { results := [.lit (.bool false)], args := [d] }
  | _ => none }
def WidePowersWrongFalsely : Prop := widePowersRow.holds Try.pinned (OpenSpec.ofChange widePowersWrong)

/- THE SECOND FORM. 'bulk': how many values and letters a reading holds, each counted each time it is reached (what is shared counts as often as it is met; a slice's spare places count too). A statement '..UptoSaid' is the law's where the arguments, and the package variables that the reading takes, are together of bulk at most 1048576: NARROWER than '..Said'. Prove '..Said' where nothing that the law and all that it calls make is longer than what came in: it says more and counts as full. Else prove '..UptoSaid'. A law counts once. -/
mutual
def uptoBulk {H : Type} : DataW H → Nat
  | .lit (.string bytes) => bytes.length + 1
  | .lit _ => 1
  | .nil => 1
  | .ptr d => uptoBulk d + 1
  | .slice elems spare => uptoBulkAll elems + uptoBulkAll spare + 1
  | .agg parts => uptoBulkAll parts + 1
  | .iface _ d => uptoBulk d + 1
  | .map entries => uptoBulkEntries entries + 1
  | .held _ => 1
def uptoBulkAll {H : Type} : List (DataW H) → Nat
  | [] => 0
  | d :: r => uptoBulk d + uptoBulkAll r
def uptoBulkEntries {H : Type} : List (Lit × DataW H) → Nat
  | [] => 0
  | x :: r => uptoBulkEntry x + uptoBulkEntries r
def uptoBulkEntry {H : Type} : Lit × DataW H → Nat
  | (.string bytes, d) => bytes.length + uptoBulk d + 1
  | (_, d) => uptoBulk d + 1
 end
def uptoSmall : (H : Type) → List (DataW H) → Bool := fun _ ds => decide (uptoBulkAll ds ≤ 1048576)
def OpenSpec.upto (s : _root_.Go.ChangeSpec) : _root_.Go.OpenSpec := { _root_.Go.OpenSpec.ofChange s with cond := some uptoSmall }

/-- 'crossbucklaw01.WideDigits', WHERE WHAT IT READS IS OF BULK AT MOST 1048576: true; the input reads as it did. -/
def wideDigitsUptoRow : OpenClaim := { program := "ythifgehpiodkcaa", sum := "8e4af6c040071c55ec23f5b5e24c9c14b086100d2c4185b6bafe935240185f8e", func := "crossbuck/crossbucklaw01.WideDigits", spec := "wideDigits", inPlace := ["math/bits.Add64"], named := ["math/bits.divideError", "math/bits.overflowError"], apart := false, narrowed := true }
def WideDigitsUptoSaid : Prop := wideDigitsUptoRow.holds Try.pinned (OpenSpec.upto wideDigitsSpec)

/-- 'crossbucklaw01.WideReads', WHERE WHAT IT READS IS OF BULK AT MOST 1048576: true; the input reads as it did. -/
def wideReadsUptoRow : OpenClaim := { program := "ythifgehpiodkcaa", sum := "8e4af6c040071c55ec23f5b5e24c9c14b086100d2c4185b6bafe935240185f8e", func := "crossbuck/crossbucklaw01.WideReads", spec := "wideReads", inPlace := ["math/bits.Add64"], named := ["math/bits.divideError", "math/bits.overflowError"], apart := false, narrowed := true }
def WideReadsUptoSaid : Prop := wideReadsUptoRow.holds Try.pinned (OpenSpec.upto wideReadsSpec)

/-- 'crossbucklaw01.WideSums', WHERE WHAT IT READS IS OF BULK AT MOST 1048576: true; the input reads as it did. -/
def wideSumsUptoRow : OpenClaim := { program := "ythifgehpiodkcaa", sum := "8e4af6c040071c55ec23f5b5e24c9c14b086100d2c4185b6bafe935240185f8e", func := "crossbuck/crossbucklaw01.WideSums", spec := "wideSums", inPlace := ["math/bits.Add64", "math/bits.Sub64"], named := ["math/bits.divideError", "math/bits.overflowError"], apart := false, narrowed := true }
def WideSumsUptoSaid : Prop := wideSumsUptoRow.holds Try.pinned (OpenSpec.upto wideSumsSpec)

/-- 'crossbucklaw01.WideTurns', WHERE WHAT IT READS IS OF BULK AT MOST 1048576: true; the input reads as it did. -/
def wideTurnsUptoRow : OpenClaim := { program := "ythifgehpiodkcaa", sum := "8e4af6c040071c55ec23f5b5e24c9c14b086100d2c4185b6bafe935240185f8e", func := "crossbuck/crossbucklaw01.WideTurns", spec := "wideTurns", inPlace := ["math/bits.Add64", "math/bits.Sub64"], named := ["math/bits.divideError", "math/bits.overflowError"], apart := false, narrowed := true }
def WideTurnsUptoSaid : Prop := wideTurnsUptoRow.holds Try.pinned (OpenSpec.upto wideTurnsSpec)

/-- 'crossbucklaw01.WidePowers', WHERE WHAT IT READS IS OF BULK AT MOST 1048576: true; the input reads as it did. -/
def widePowersUptoRow : OpenClaim := { program := "ythifgehpiodkcaa", sum := "8e4af6c040071c55ec23f5b5e24c9c14b086100d2c4185b6bafe935240185f8e", func := "crossbuck/crossbucklaw01.WidePowers", spec := "widePowers", inPlace := ["math/bits.Sub64", "math/bits.Add64"], named := ["math/bits.divideError", "math/bits.overflowError"], apart := false, narrowed := true }
def WidePowersUptoSaid : Prop := widePowersUptoRow.holds Try.pinned (OpenSpec.upto widePowersSpec)

end Rows
end Go.Proofs.Ythifgehpiodkcaa
