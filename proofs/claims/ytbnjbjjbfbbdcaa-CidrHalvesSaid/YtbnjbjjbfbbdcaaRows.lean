/-
  No cell of these rows narrows 'for every input' (looked for: loops, veiled, ifaces, maps, wideKeys, modest, calm, conditions, laid).
  DERIVED. THE GIVEN ROWS OF THIS SEAT. 8 by the template 'for every input the law returns true; each argument reads behind the call as it read before'; 0 by the template 'total and deterministic' (their statements: YtbnjbjjbfbbdcaaTotals.lean).
  GIVEN WITH THE SEED: the statements are not yours to turn. If you find one false, say at which input.
  Laid BY PROGRAM, IN A SANDBOX (cutbox-rows.mjs): the forced cells as the released guide's own fill.sh prints them over the translation 4c361ed5fb75c137… (all of the seat's roots in one cut). By AI agents, Wed Nov 11 2026. No macro, syntax, notation, axiom, sorry.
-/
import Derived.Test.YtbnjbjjbfbbdcaaChecked
import GoSem.Claim
import GoSem.ClaimJoined
import GoSem.ClaimMapViews
import Derived.JoinedTies
import Derived.KernelRfl
namespace Go.Proofs.Ytbnjbjjbfbbdcaa
/- THE CELL 'sum', in the pinned program and in every row, IS THE sha256 OF THE DUMP (.gsa) THAT YtbnjbjjbfbbdcaaProg.lean LOADS. Nothing in Lean hashes anything: it is a label: what it is worth is what the hold of that sum in a sandbox is worth. -/
noncomputable def Try.pinned : Pinned := { name := "ytbnjbjjbfbbdcaa", sum := "4c361ed5fb75c1373c58c6e90974693c47225d2d030921134e239a76dc1288df", checked := Try.checked }
namespace Rows
def none {H : Type} : Left H := { results := [], args := [] }

/-- 'crossbucklaw03.CidrBlocks': WHATEVER THE INPUT: true; the input reads as it did. -/
def cidrBlocksSpec : ChangeSpec := { name := "cidrBlocks", fn := fun _ => fun
  | [d1, d2] => { results := [.lit (.bool true)], args := [d1, d2] }
  | _ => none }
def cidrBlocksRow : OpenClaim := { program := "ytbnjbjjbfbbdcaa", sum := "4c361ed5fb75c1373c58c6e90974693c47225d2d030921134e239a76dc1288df", func := "crossbuck/crossbucklaw03.CidrBlocks", spec := "cidrBlocks", apart := false }
def CidrBlocksSaid : Prop := cidrBlocksRow.holds Try.pinned (OpenSpec.ofChange cidrBlocksSpec)

/-- ITS FALSE NEIGHBOUR: 'it returns false'. Refute it at one input. -/
def cidrBlocksWrong : ChangeSpec := { name := "cidrBlocks", fn := fun _ => fun
  | [d1, d2] => { results := [.lit (.bool false)], args := [d1, d2] }
  | _ => none }
def CidrBlocksWrongFalsely : Prop := cidrBlocksRow.holds Try.pinned (OpenSpec.ofChange cidrBlocksWrong)

/-- 'crossbucklaw03.CidrFew': WHATEVER THE INPUT: true; the input reads as it did. -/
def cidrFewSpec : ChangeSpec := { name := "cidrFew", fn := fun _ => fun
  | [d1, d2] => { results := [.lit (.bool true)], args := [d1, d2] }
  | _ => none }
def cidrFewRow : OpenClaim := { program := "ytbnjbjjbfbbdcaa", sum := "4c361ed5fb75c1373c58c6e90974693c47225d2d030921134e239a76dc1288df", func := "crossbuck/crossbucklaw03.CidrFew", spec := "cidrFew", apart := false }
def CidrFewSaid : Prop := cidrFewRow.holds Try.pinned (OpenSpec.ofChange cidrFewSpec)

/-- ITS FALSE NEIGHBOUR: 'it returns false'. Refute it at one input. -/
def cidrFewWrong : ChangeSpec := { name := "cidrFew", fn := fun _ => fun
  | [d1, d2] => { results := [.lit (.bool false)], args := [d1, d2] }
  | _ => none }
def CidrFewWrongFalsely : Prop := cidrFewRow.holds Try.pinned (OpenSpec.ofChange cidrFewWrong)

/-- 'crossbucklaw16.RegionParts': WHATEVER THE INPUT: true; the input reads as it did. -/
def regionPartsSpec : ChangeSpec := { name := "regionParts", fn := fun _ => fun
  | [d1, d2, d3] => { results := [.lit (.bool true)], args := [d1, d2, d3] }
  | _ => none }
def regionPartsRow : OpenClaim := { program := "ytbnjbjjbfbbdcaa", sum := "4c361ed5fb75c1373c58c6e90974693c47225d2d030921134e239a76dc1288df", func := "crossbuck/crossbucklaw16.RegionParts", spec := "regionParts", apart := false }
def RegionPartsSaid : Prop := regionPartsRow.holds Try.pinned (OpenSpec.ofChange regionPartsSpec)

/-- ITS FALSE NEIGHBOUR: 'it returns false'. Refute it at one input. -/
def regionPartsWrong : ChangeSpec := { name := "regionParts", fn := fun _ => fun
  | [d1, d2, d3] => { results := [.lit (.bool false)], args := [d1, d2, d3] }
  | _ => none }
def RegionPartsWrongFalsely : Prop := regionPartsRow.holds Try.pinned (OpenSpec.ofChange regionPartsWrong)

/-- 'crossbucklaw16.RegionNests': WHATEVER THE INPUT: true; the input reads as it did. -/
def regionNestsSpec : ChangeSpec := { name := "regionNests", fn := fun _ => fun
  | [d1, d2] => { results := [.lit (.bool true)], args := [d1, d2] }
  | _ => none }
def regionNestsRow : OpenClaim := { program := "ytbnjbjjbfbbdcaa", sum := "4c361ed5fb75c1373c58c6e90974693c47225d2d030921134e239a76dc1288df", func := "crossbuck/crossbucklaw16.RegionNests", spec := "regionNests", apart := false }
def RegionNestsSaid : Prop := regionNestsRow.holds Try.pinned (OpenSpec.ofChange regionNestsSpec)

/-- ITS FALSE NEIGHBOUR: 'it returns false'. Refute it at one input. -/
def regionNestsWrong : ChangeSpec := { name := "regionNests", fn := fun _ => fun
  | [d1, d2] => { results := [.lit (.bool false)], args := [d1, d2] }
  | _ => none }
def RegionNestsWrongFalsely : Prop := regionNestsRow.holds Try.pinned (OpenSpec.ofChange regionNestsWrong)

/-- 'crossbucklaw03.CidrHalves': WHATEVER THE INPUT: true; the input reads as it did. -/
def cidrHalvesSpec : ChangeSpec := { name := "cidrHalves", fn := fun _ => fun
  | [d1, d2, d3] => { results := [.lit (.bool true)], args := [d1, d2, d3] }
  | _ => none }
def cidrHalvesRow : OpenClaim := { program := "ytbnjbjjbfbbdcaa", sum := "4c361ed5fb75c1373c58c6e90974693c47225d2d030921134e239a76dc1288df", func := "crossbuck/crossbucklaw03.CidrHalves", spec := "cidrHalves", apart := false }
def CidrHalvesSaid : Prop := cidrHalvesRow.holds Try.pinned (OpenSpec.ofChange cidrHalvesSpec)

/-- ITS FALSE NEIGHBOUR: 'it returns false'. Refute it at one input. -/
def cidrHalvesWrong : ChangeSpec := { name := "cidrHalves", fn := fun _ => fun
  | [d1, d2, d3] => { results := [.lit (.bool false)], args := [d1, d2, d3] }
  | _ => none }
def CidrHalvesWrongFalsely : Prop := cidrHalvesRow.holds Try.pinned (OpenSpec.ofChange cidrHalvesWrong)

/-- 'crossbucklaw16.RegionFilters': WHATEVER THE INPUT: true; the input reads as it did. -/
def regionFiltersSpec : ChangeSpec := { name := "regionFilters", fn := fun _ => fun
  | [d1, d2, d3] => { results := [.lit (.bool true)], args := [d1, d2, d3] }
  | _ => none }
def regionFiltersRow : OpenClaim := { program := "ytbnjbjjbfbbdcaa", sum := "4c361ed5fb75c1373c58c6e90974693c47225d2d030921134e239a76dc1288df", func := "crossbuck/crossbucklaw16.RegionFilters", spec := "regionFilters", apart := false }
def RegionFiltersSaid : Prop := regionFiltersRow.holds Try.pinned (OpenSpec.ofChange regionFiltersSpec)

/-- ITS FALSE NEIGHBOUR: 'it returns false'. Refute it at one input. -/
def regionFiltersWrong : ChangeSpec := { name := "regionFilters", fn := fun _ => fun
  | [d1, d2, d3] => { results := [.lit (.bool false)], args := [d1, d2, d3] }
  | _ => none }
def RegionFiltersWrongFalsely : Prop := regionFiltersRow.holds Try.pinned (OpenSpec.ofChange regionFiltersWrong)

/-- 'crossbucklaw16.RegionTouches': WHATEVER THE INPUT: true; the input reads as it did. -/
def regionTouchesSpec : ChangeSpec := { name := "regionTouches", fn := fun _ => fun
  | [d1, d2] => { results := [.lit (.bool true)], args := [d1, d2] }
  | _ => none }
def regionTouchesRow : OpenClaim := { program := "ytbnjbjjbfbbdcaa", sum := "4c361ed5fb75c1373c58c6e90974693c47225d2d030921134e239a76dc1288df", func := "crossbuck/crossbucklaw16.RegionTouches", spec := "regionTouches", apart := false }
def RegionTouchesSaid : Prop := regionTouchesRow.holds Try.pinned (OpenSpec.ofChange regionTouchesSpec)

/-- ITS FALSE NEIGHBOUR: 'it returns false'. Refute it at one input. -/
def regionTouchesWrong : ChangeSpec := { name := "regionTouches", fn := fun _ => fun
  | [d1, d2] => { results := [.lit (.bool false)], args := [d1, d2] }
  | _ => none }
def RegionTouchesWrongFalsely : Prop := regionTouchesRow.holds Try.pinned (OpenSpec.ofChange regionTouchesWrong)

/-- 'crossbucklaw03.CidrPrefixes': WHATEVER THE INPUT: true; the input reads as it did. -/
def cidrPrefixesSpec : ChangeSpec := { name := "cidrPrefixes", fn := fun _ => fun
  | [d1, d2, d3, d4] => { results := [.lit (.bool true)], args := [d1, d2, d3, d4] }
  | _ => none }
def cidrPrefixesRow : OpenClaim := { program := "ytbnjbjjbfbbdcaa", sum := "4c361ed5fb75c1373c58c6e90974693c47225d2d030921134e239a76dc1288df", func := "crossbuck/crossbucklaw03.CidrPrefixes", spec := "cidrPrefixes", apart := false }
def CidrPrefixesSaid : Prop := cidrPrefixesRow.holds Try.pinned (OpenSpec.ofChange cidrPrefixesSpec)

/-- ITS FALSE NEIGHBOUR: 'it returns false'. Refute it at one input. -/
def cidrPrefixesWrong : ChangeSpec := { name := "cidrPrefixes", fn := fun _ => fun
  | [d1, d2, d3, d4] => { results := [.lit (.bool false)], args := [d1, d2, d3, d4] }
  | _ => none }
def CidrPrefixesWrongFalsely : Prop := cidrPrefixesRow.holds Try.pinned (OpenSpec.ofChange cidrPrefixesWrong)

/- THE SECOND FORM. 'bulk': how many values and letters a reading holds, each counted each time it is reached (what is shared counts as often as it is met; a slice's spare places count too). A statement '..UptoSaid' is the law's where the arguments, and the package variables that the reading takes, are together of bulk at most 1048576: NARROWER than '..Said'. Prove '..Said' where nothing that the law and all that it calls make is longer than what came in: it says more and counts as full. Else prove '..UptoSaid'. A law counts once. -/
mutual
def uptoBulk {H : Type} : DataW H → Nat
  | .lit (.string bytes) => bytes.length + 1
  | .lit _ => 1
  | .nil => 1
  | .ptr d => uptoBulk d + 1
  | .slice elems spare => uptoBulkAll elems + uptoBulkAll spare + 1
  | .agg parts => uptoBulkAll parts + 1
  | .iface _ d => uptoBulk d + 1
  | .map entries => uptoBulkEntries entries + 1
  | .held _ => 1
def uptoBulkAll {H : Type} : List (DataW H) → Nat
  | [] => 0
  | d :: r => uptoBulk d + uptoBulkAll r
def uptoBulkEntries {H : Type} : List (Lit × DataW H) → Nat
  | [] => 0
  | x :: r => uptoBulkEntry x + uptoBulkEntries r
def uptoBulkEntry {H : Type} : Lit × DataW H → Nat
  | (.string bytes, d) => bytes.length + uptoBulk d + 1
  | (_, d) => uptoBulk d + 1
 end
def uptoSmall : (H : Type) → List (DataW H) → Bool := fun _ ds => decide (uptoBulkAll ds ≤ 1048576)
def OpenSpec.upto (s : _root_.Go.ChangeSpec) : _root_.Go.OpenSpec := { _root_.Go.OpenSpec.ofChange s with cond := some uptoSmall }

/-- 'crossbucklaw03.CidrBlocks', WHERE WHAT IT READS IS OF BULK AT MOST 1048576: true; the input reads as it did. -/
def cidrBlocksUptoRow : OpenClaim := { program := "ytbnjbjjbfbbdcaa", sum := "4c361ed5fb75c1373c58c6e90974693c47225d2d030921134e239a76dc1288df", func := "crossbuck/crossbucklaw03.CidrBlocks", spec := "cidrBlocks", apart := false, narrowed := true }
def CidrBlocksUptoSaid : Prop := cidrBlocksUptoRow.holds Try.pinned (OpenSpec.upto cidrBlocksSpec)

/-- 'crossbucklaw03.CidrFew', WHERE WHAT IT READS IS OF BULK AT MOST 1048576: true; the input reads as it did. -/
def cidrFewUptoRow : OpenClaim := { program := "ytbnjbjjbfbbdcaa", sum := "4c361ed5fb75c1373c58c6e90974693c47225d2d030921134e239a76dc1288df", func := "crossbuck/crossbucklaw03.CidrFew", spec := "cidrFew", apart := false, narrowed := true }
def CidrFewUptoSaid : Prop := cidrFewUptoRow.holds Try.pinned (OpenSpec.upto cidrFewSpec)

/-- 'crossbucklaw16.RegionParts', WHERE WHAT IT READS IS OF BULK AT MOST 1048576: true; the input reads as it did. -/
def regionPartsUptoRow : OpenClaim := { program := "ytbnjbjjbfbbdcaa", sum := "4c361ed5fb75c1373c58c6e90974693c47225d2d030921134e239a76dc1288df", func := "crossbuck/crossbucklaw16.RegionParts", spec := "regionParts", apart := false, narrowed := true }
def RegionPartsUptoSaid : Prop := regionPartsUptoRow.holds Try.pinned (OpenSpec.upto regionPartsSpec)

/-- 'crossbucklaw16.RegionNests', WHERE WHAT IT READS IS OF BULK AT MOST 1048576: true; the input reads as it did. -/
def regionNestsUptoRow : OpenClaim := { program := "ytbnjbjjbfbbdcaa", sum := "4c361ed5fb75c1373c58c6e90974693c47225d2d030921134e239a76dc1288df", func := "crossbuck/crossbucklaw16.RegionNests", spec := "regionNests", apart := false, narrowed := true }
def RegionNestsUptoSaid : Prop := regionNestsUptoRow.holds Try.pinned (OpenSpec.upto regionNestsSpec)

/-- 'crossbucklaw03.CidrHalves', WHERE WHAT IT READS IS OF BULK AT MOST 1048576: true; the input reads as it did. -/
def cidrHalvesUptoRow : OpenClaim := { program := "ytbnjbjjbfbbdcaa", sum := "4c361ed5fb75c1373c58c6e90974693c47225d2d030921134e239a76dc1288df", func := "crossbuck/crossbucklaw03.CidrHalves", spec := "cidrHalves", apart := false, narrowed := true }
def CidrHalvesUptoSaid : Prop := cidrHalvesUptoRow.holds Try.pinned (OpenSpec.upto cidrHalvesSpec)

/-- 'crossbucklaw16.RegionFilters', WHERE WHAT IT READS IS OF BULK AT MOST 1048576: true; the input reads as it did. -/
def regionFiltersUptoRow : OpenClaim := { program := "ytbnjbjjbfbbdcaa", sum := "4c361ed5fb75c1373c58c6e90974693c47225d2d030921134e239a76dc1288df", func := "crossbuck/crossbucklaw16.RegionFilters", spec := "regionFilters", apart := false, narrowed := true }
def RegionFiltersUptoSaid : Prop := regionFiltersUptoRow.holds Try.pinned (OpenSpec.upto regionFiltersSpec)

/-- 'crossbucklaw16.RegionTouches', WHERE WHAT IT READS IS OF BULK AT MOST 1048576: true; the input reads as it did. -/
def regionTouchesUptoRow : OpenClaim := { program := "ytbnjbjjbfbbdcaa", sum := "4c361ed5fb75c1373c58c6e90974693c47225d2d030921134e239a76dc1288df", func := "crossbuck/crossbucklaw16.RegionTouches", spec := "regionTouches", apart := false, narrowed := true }
def RegionTouchesUptoSaid : Prop := regionTouchesUptoRow.holds Try.pinned (OpenSpec.upto regionTouchesSpec)

/-- 'crossbucklaw03.CidrPrefixes', WHERE WHAT IT READS IS OF BULK AT MOST 1048576: true; the input reads as it did. -/
def cidrPrefixesUptoRow : OpenClaim := { program := "ytbnjbjjbfbbdcaa", sum := "4c361ed5fb75c1373c58c6e90974693c47225d2d030921134e239a76dc1288df", func := "crossbuck/crossbucklaw03.CidrPrefixes", spec := "cidrPrefixes", apart := false, narrowed := true }
def CidrPrefixesUptoSaid : Prop := cidrPrefixesUptoRow.holds Try.pinned (OpenSpec.upto cidrPrefixesSpec)

end Rows
end Go.Proofs.Ytbnjbjjbfbbdcaa
