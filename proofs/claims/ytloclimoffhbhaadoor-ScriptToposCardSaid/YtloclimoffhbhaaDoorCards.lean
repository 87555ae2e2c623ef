/-
  DERIVED. GIVEN WITH THE SEED: THE CARDS: each row of YtloclimoffhbhaaDoorRows.lean that lists a variable, with what it lists TIED to the program's text (the seventh form; the later family's looks); each row that meets fmt, with fmt's text TOLD by the authors' own Lean function (tested against real Go, not proved from fmt's source: count such statements apart). THE CARD IS WHAT COUNTS. Prove the row's statement (the work); the ties are given (YtloclimoffhbhaaDoorTie.lean); close each card by the builder's one call (the guide's Derived/Test/ToyasCard.lean, 'card_holds'). Laid BY PROGRAM, IN A SANDBOX (cutbox-door.mjs). By AI agents, Wed Nov 11 2026. No macro, syntax, notation, axiom, sorry.
-/
import Derived.Test.YtloclimoffhbhaaDoorRows
import GoSem.ClaimSeven
namespace Go.Proofs.YtloclimoffhbhaaDoor
namespace Rows

/-- THE TIED CARD OF 'crossbucklaw25.ScriptTopos'. -/
def scriptToposCard : Claim7 := { stood := { row := scriptToposRow, standIns := [], harness := (true, "4e4aef7e069febfc6066ab0c4f7bf4f61fac326d7b12935f57f572baf7d7f030"), looks := true }, kinds := [], alts := [], laidByText := true, laidKinds := [.data, .data, .data, .data, .data, .pinned], laidTests := true, laidLooks := .later }
def ScriptToposCardSaid : Prop := Claim7.holds Tryd.pinned (.plain (OpenSpec.ofChange scriptToposSpec)) scriptToposCard

/-- THE TIED CARD OF 'crossbucklaw25.ScriptReads'. -/
def scriptReadsCard : Claim7 := { stood := { row := scriptReadsRow, standIns := [], harness := (true, "4e4aef7e069febfc6066ab0c4f7bf4f61fac326d7b12935f57f572baf7d7f030"), looks := true }, kinds := [], alts := [], laidByText := true, laidKinds := [.data, .data, .data, .data, .data, .pinned], laidTests := true, laidLooks := .later }
def ScriptReadsCardSaid : Prop := Claim7.holds Tryd.pinned (.plain (OpenSpec.ofChange scriptReadsSpec)) scriptReadsCard

/-- THE TIED CARD OF 'crossbucklaw02.HdrNumbers'. -/
def hdrNumbersCard : Claim7 := { stood := { row := hdrNumbersRow, standIns := [], harness := (true, "4e4aef7e069febfc6066ab0c4f7bf4f61fac326d7b12935f57f572baf7d7f030"), looks := true }, kinds := [], alts := [], laidByText := true, laidKinds := [.data, .data, .data], laidTests := true, laidLooks := .later }
def HdrNumbersCardSaid : Prop := Claim7.holds Tryd.pinned (.plain (OpenSpec.ofChange hdrNumbersSpec)) hdrNumbersCard

/-- THE TIED CARD OF 'crossbucklaw03.CidrReads'. -/
def cidrReadsCard : Claim7 := { stood := { row := cidrReadsRow, standIns := [], harness := (true, "4e4aef7e069febfc6066ab0c4f7bf4f61fac326d7b12935f57f572baf7d7f030"), looks := true }, kinds := [], alts := [], laidByText := true, laidKinds := [.data, .pinned], laidTests := true, laidLooks := .later }
def CidrReadsCardSaid : Prop := Claim7.holds Tryd.pinned (.plain (OpenSpec.ofChange cidrReadsSpec)) cidrReadsCard

/-- THE TIED CARD OF 'crossbucklaw02.HdrBits'. -/
def hdrBitsCard : Claim7 := { stood := { row := hdrBitsRow, standIns := [], harness := (true, "4e4aef7e069febfc6066ab0c4f7bf4f61fac326d7b12935f57f572baf7d7f030"), looks := true }, kinds := [], alts := [], laidByText := true, laidKinds := [.data, .data, .data], laidTests := true, laidLooks := .later }
def HdrBitsCardSaid : Prop := Claim7.holds Tryd.pinned (.plain (OpenSpec.ofChange hdrBitsSpec)) hdrBitsCard

/-- THE TIED CARD OF 'crossbucklaw02.HdrTurns'. -/
def hdrTurnsCard : Claim7 := { stood := { row := hdrTurnsRow, standIns := [], harness := (true, "4e4aef7e069febfc6066ab0c4f7bf4f61fac326d7b12935f57f572baf7d7f030"), looks := true }, kinds := [], alts := [], laidByText := true, laidKinds := [.data, .data, .data], laidTests := true, laidLooks := .later }
def HdrTurnsCardSaid : Prop := Claim7.holds Tryd.pinned (.plain (OpenSpec.ofChange hdrTurnsSpec)) hdrTurnsCard

/-- THE TIED CARD OF 'crossbucklaw04.FilterMatches'. -/
def filterMatchesCard : Claim7 := { stood := { row := filterMatchesRow, standIns := [], harness := (true, "4e4aef7e069febfc6066ab0c4f7bf4f61fac326d7b12935f57f572baf7d7f030"), looks := true }, kinds := [], alts := [], laidByText := true, laidKinds := [.data, .pinned], laidTests := true, laidLooks := .later }
def FilterMatchesCardSaid : Prop := Claim7.holds Tryd.pinned (.plain (OpenSpec.ofChange filterMatchesSpec)) filterMatchesCard

/-- THE TIED CARD OF 'crossbucklaw04.FilterParts'. -/
def filterPartsCard : Claim7 := { stood := { row := filterPartsRow, standIns := [], harness := (true, "4e4aef7e069febfc6066ab0c4f7bf4f61fac326d7b12935f57f572baf7d7f030"), looks := true }, kinds := [], alts := [], laidByText := true, laidKinds := [.data, .pinned], laidTests := true, laidLooks := .later }
def FilterPartsCardSaid : Prop := Claim7.holds Tryd.pinned (.plain (OpenSpec.ofChange filterPartsSpec)) filterPartsCard

/-- THE TIED CARD OF 'crossbucklaw04.FilterMeets'. -/
def filterMeetsCard : Claim7 := { stood := { row := filterMeetsRow, standIns := [], harness := (true, "4e4aef7e069febfc6066ab0c4f7bf4f61fac326d7b12935f57f572baf7d7f030"), looks := true }, kinds := [], alts := [], laidByText := true, laidKinds := [.data, .pinned], laidTests := true, laidLooks := .later }
def FilterMeetsCardSaid : Prop := Claim7.holds Tryd.pinned (.plain (OpenSpec.ofChange filterMeetsSpec)) filterMeetsCard

/-- THE TIED CARD OF 'crossbucklaw02.HdrTexts'. -/
def hdrTextsCard : Claim7 := { stood := { row := hdrTextsRow, standIns := [], harness := (true, "4e4aef7e069febfc6066ab0c4f7bf4f61fac326d7b12935f57f572baf7d7f030"), looks := true }, kinds := [], alts := [], laidByText := true, laidKinds := [.data, .data, .data, .data, .pinned], laidTests := true, laidLooks := .later }
def HdrTextsCardSaid : Prop := Claim7.holds Tryd.pinned (.plain (OpenSpec.ofChange hdrTextsSpec)) hdrTextsCard

/-- THE TIED CARD OF 'crossbucklaw02.HdrReads'. -/
def hdrReadsCard : Claim7 := { stood := { row := hdrReadsRow, standIns := [], harness := (true, "4e4aef7e069febfc6066ab0c4f7bf4f61fac326d7b12935f57f572baf7d7f030"), looks := true }, kinds := [], alts := [], laidByText := true, laidKinds := [.data, .data, .data, .data, .pinned], laidTests := true, laidLooks := .later }
def HdrReadsCardSaid : Prop := Claim7.holds Tryd.pinned (.plain (OpenSpec.ofChange hdrReadsSpec)) hdrReadsCard

/-- THE TIED CARD OF 'crossbucklaw03.CidrTexts'. -/
def cidrTextsCard : Claim7 := { stood := { row := cidrTextsRow, standIns := [], harness := (true, "4e4aef7e069febfc6066ab0c4f7bf4f61fac326d7b12935f57f572baf7d7f030"), looks := true }, kinds := [], alts := [], laidByText := true, laidKinds := [.data, .data, .data, .data, .pinned], laidTests := true, laidLooks := .later }
def CidrTextsCardSaid : Prop := Claim7.holds Tryd.pinned (.plain (OpenSpec.ofChange cidrTextsSpec)) cidrTextsCard

/-- THE TIED CARD OF 'crossbucklaw04.FilterTexts'. -/
def filterTextsCard : Claim7 := { stood := { row := filterTextsRow, standIns := [], harness := (true, "4e4aef7e069febfc6066ab0c4f7bf4f61fac326d7b12935f57f572baf7d7f030"), looks := true }, kinds := [], alts := [], laidByText := true, laidKinds := [.data, .data, .data, .data, .pinned], laidTests := true, laidLooks := .later }
def FilterTextsCardSaid : Prop := Claim7.holds Tryd.pinned (.plain (OpenSpec.ofChange filterTextsSpec)) filterTextsCard

/-- THE TIED CARD OF 'crossbucklaw25.ScriptChanges'. -/
def scriptChangesCard : Claim7 := { stood := { row := scriptChangesRow, standIns := [], harness := (true, "4e4aef7e069febfc6066ab0c4f7bf4f61fac326d7b12935f57f572baf7d7f030"), looks := true }, kinds := [], alts := [], laidByText := true, laidKinds := [.data, .data, .data, .data, .data, .pinned], laidTests := true, laidLooks := .later }
def ScriptChangesCardSaid : Prop := Claim7.holds Tryd.pinned (.plain (OpenSpec.ofChange scriptChangesSpec)) scriptChangesCard

/-- THE TIED CARD OF 'crossbucklaw25.ScriptCalls'. -/
def scriptCallsCard : Claim7 := { stood := { row := scriptCallsRow, standIns := [], harness := (true, "4e4aef7e069febfc6066ab0c4f7bf4f61fac326d7b12935f57f572baf7d7f030"), looks := true }, kinds := [], alts := [], laidByText := true, laidKinds := [.data, .data, .data, .data, .data, .pinned], laidTests := true, laidLooks := .later }
def ScriptCallsCardSaid : Prop := Claim7.holds Tryd.pinned (.plain (OpenSpec.ofChange scriptCallsSpec)) scriptCallsCard

/-- THE TIED CARD OF 'crossbucklaw25.ScriptBatches'. -/
def scriptBatchesCard : Claim7 := { stood := { row := scriptBatchesRow, standIns := [], harness := (true, "4e4aef7e069febfc6066ab0c4f7bf4f61fac326d7b12935f57f572baf7d7f030"), looks := true }, kinds := [], alts := [], laidByText := true, laidKinds := [.data, .data, .data, .data, .data, .pinned], laidTests := true, laidLooks := .later }
def ScriptBatchesCardSaid : Prop := Claim7.holds Tryd.pinned (.plain (OpenSpec.ofChange scriptBatchesSpec)) scriptBatchesCard

/-- THE SECOND FORM's CARD OF 'crossbucklaw25.ScriptTopos'. -/
def scriptToposUptoCard : Claim7 := { stood := { row := scriptToposUptoRow, standIns := [], harness := (true, "4e4aef7e069febfc6066ab0c4f7bf4f61fac326d7b12935f57f572baf7d7f030"), looks := true }, kinds := [], alts := [], laidByText := true, laidKinds := [.data, .data, .data, .data, .data, .pinned], laidTests := true, laidLooks := .later }
def ScriptToposUptoCardSaid : Prop := Claim7.holds Tryd.pinned (.plain (OpenSpec.upto scriptToposSpec)) scriptToposUptoCard

/-- THE SECOND FORM's CARD OF 'crossbucklaw25.ScriptReads'. -/
def scriptReadsUptoCard : Claim7 := { stood := { row := scriptReadsUptoRow, standIns := [], harness := (true, "4e4aef7e069febfc6066ab0c4f7bf4f61fac326d7b12935f57f572baf7d7f030"), looks := true }, kinds := [], alts := [], laidByText := true, laidKinds := [.data, .data, .data, .data, .data, .pinned], laidTests := true, laidLooks := .later }
def ScriptReadsUptoCardSaid : Prop := Claim7.holds Tryd.pinned (.plain (OpenSpec.upto scriptReadsSpec)) scriptReadsUptoCard

/-- THE SECOND FORM's CARD OF 'crossbucklaw02.HdrNumbers'. -/
def hdrNumbersUptoCard : Claim7 := { stood := { row := hdrNumbersUptoRow, standIns := [], harness := (true, "4e4aef7e069febfc6066ab0c4f7bf4f61fac326d7b12935f57f572baf7d7f030"), looks := true }, kinds := [], alts := [], laidByText := true, laidKinds := [.data, .data, .data], laidTests := true, laidLooks := .later }
def HdrNumbersUptoCardSaid : Prop := Claim7.holds Tryd.pinned (.plain (OpenSpec.upto hdrNumbersSpec)) hdrNumbersUptoCard

/-- THE SECOND FORM's CARD OF 'crossbucklaw03.CidrReads'. -/
def cidrReadsUptoCard : Claim7 := { stood := { row := cidrReadsUptoRow, standIns := [], harness := (true, "4e4aef7e069febfc6066ab0c4f7bf4f61fac326d7b12935f57f572baf7d7f030"), looks := true }, kinds := [], alts := [], laidByText := true, laidKinds := [.data, .pinned], laidTests := true, laidLooks := .later }
def CidrReadsUptoCardSaid : Prop := Claim7.holds Tryd.pinned (.plain (OpenSpec.upto cidrReadsSpec)) cidrReadsUptoCard

/-- THE SECOND FORM's CARD OF 'crossbucklaw02.HdrBits'. -/
def hdrBitsUptoCard : Claim7 := { stood := { row := hdrBitsUptoRow, standIns := [], harness := (true, "4e4aef7e069febfc6066ab0c4f7bf4f61fac326d7b12935f57f572baf7d7f030"), looks := true }, kinds := [], alts := [], laidByText := true, laidKinds := [.data, .data, .data], laidTests := true, laidLooks := .later }
def HdrBitsUptoCardSaid : Prop := Claim7.holds Tryd.pinned (.plain (OpenSpec.upto hdrBitsSpec)) hdrBitsUptoCard

/-- THE SECOND FORM's CARD OF 'crossbucklaw02.HdrTurns'. -/
def hdrTurnsUptoCard : Claim7 := { stood := { row := hdrTurnsUptoRow, standIns := [], harness := (true, "4e4aef7e069febfc6066ab0c4f7bf4f61fac326d7b12935f57f572baf7d7f030"), looks := true }, kinds := [], alts := [], laidByText := true, laidKinds := [.data, .data, .data], laidTests := true, laidLooks := .later }
def HdrTurnsUptoCardSaid : Prop := Claim7.holds Tryd.pinned (.plain (OpenSpec.upto hdrTurnsSpec)) hdrTurnsUptoCard

/-- THE SECOND FORM's CARD OF 'crossbucklaw04.FilterMatches'. -/
def filterMatchesUptoCard : Claim7 := { stood := { row := filterMatchesUptoRow, standIns := [], harness := (true, "4e4aef7e069febfc6066ab0c4f7bf4f61fac326d7b12935f57f572baf7d7f030"), looks := true }, kinds := [], alts := [], laidByText := true, laidKinds := [.data, .pinned], laidTests := true, laidLooks := .later }
def FilterMatchesUptoCardSaid : Prop := Claim7.holds Tryd.pinned (.plain (OpenSpec.upto filterMatchesSpec)) filterMatchesUptoCard

/-- THE SECOND FORM's CARD OF 'crossbucklaw04.FilterParts'. -/
def filterPartsUptoCard : Claim7 := { stood := { row := filterPartsUptoRow, standIns := [], harness := (true, "4e4aef7e069febfc6066ab0c4f7bf4f61fac326d7b12935f57f572baf7d7f030"), looks := true }, kinds := [], alts := [], laidByText := true, laidKinds := [.data, .pinned], laidTests := true, laidLooks := .later }
def FilterPartsUptoCardSaid : Prop := Claim7.holds Tryd.pinned (.plain (OpenSpec.upto filterPartsSpec)) filterPartsUptoCard

/-- THE SECOND FORM's CARD OF 'crossbucklaw04.FilterMeets'. -/
def filterMeetsUptoCard : Claim7 := { stood := { row := filterMeetsUptoRow, standIns := [], harness := (true, "4e4aef7e069febfc6066ab0c4f7bf4f61fac326d7b12935f57f572baf7d7f030"), looks := true }, kinds := [], alts := [], laidByText := true, laidKinds := [.data, .pinned], laidTests := true, laidLooks := .later }
def FilterMeetsUptoCardSaid : Prop := Claim7.holds Tryd.pinned (.plain (OpenSpec.upto filterMeetsSpec)) filterMeetsUptoCard

/-- THE SECOND FORM's CARD OF 'crossbucklaw02.HdrTexts'. -/
def hdrTextsUptoCard : Claim7 := { stood := { row := hdrTextsUptoRow, standIns := [], harness := (true, "4e4aef7e069febfc6066ab0c4f7bf4f61fac326d7b12935f57f572baf7d7f030"), looks := true }, kinds := [], alts := [], laidByText := true, laidKinds := [.data, .data, .data, .data, .pinned], laidTests := true, laidLooks := .later }
def HdrTextsUptoCardSaid : Prop := Claim7.holds Tryd.pinned (.plain (OpenSpec.upto hdrTextsSpec)) hdrTextsUptoCard

/-- THE SECOND FORM's CARD OF 'crossbucklaw02.HdrReads'. -/
def hdrReadsUptoCard : Claim7 := { stood := { row := hdrReadsUptoRow, standIns := [], harness := (true, "4e4aef7e069febfc6066ab0c4f7bf4f61fac326d7b12935f57f572baf7d7f030"), looks := true }, kinds := [], alts := [], laidByText := true, laidKinds := [.data, .data, .data, .data, .pinned], laidTests := true, laidLooks := .later }
def HdrReadsUptoCardSaid : Prop := Claim7.holds Tryd.pinned (.plain (OpenSpec.upto hdrReadsSpec)) hdrReadsUptoCard

/-- THE SECOND FORM's CARD OF 'crossbucklaw03.CidrTexts'. -/
def cidrTextsUptoCard : Claim7 := { stood := { row := cidrTextsUptoRow, standIns := [], harness := (true, "4e4aef7e069febfc6066ab0c4f7bf4f61fac326d7b12935f57f572baf7d7f030"), looks := true }, kinds := [], alts := [], laidByText := true, laidKinds := [.data, .data, .data, .data, .pinned], laidTests := true, laidLooks := .later }
def CidrTextsUptoCardSaid : Prop := Claim7.holds Tryd.pinned (.plain (OpenSpec.upto cidrTextsSpec)) cidrTextsUptoCard

/-- THE SECOND FORM's CARD OF 'crossbucklaw04.FilterTexts'. -/
def filterTextsUptoCard : Claim7 := { stood := { row := filterTextsUptoRow, standIns := [], harness := (true, "4e4aef7e069febfc6066ab0c4f7bf4f61fac326d7b12935f57f572baf7d7f030"), looks := true }, kinds := [], alts := [], laidByText := true, laidKinds := [.data, .data, .data, .data, .pinned], laidTests := true, laidLooks := .later }
def FilterTextsUptoCardSaid : Prop := Claim7.holds Tryd.pinned (.plain (OpenSpec.upto filterTextsSpec)) filterTextsUptoCard

/-- THE SECOND FORM's CARD OF 'crossbucklaw25.ScriptChanges'. -/
def scriptChangesUptoCard : Claim7 := { stood := { row := scriptChangesUptoRow, standIns := [], harness := (true, "4e4aef7e069febfc6066ab0c4f7bf4f61fac326d7b12935f57f572baf7d7f030"), looks := true }, kinds := [], alts := [], laidByText := true, laidKinds := [.data, .data, .data, .data, .data, .pinned], laidTests := true, laidLooks := .later }
def ScriptChangesUptoCardSaid : Prop := Claim7.holds Tryd.pinned (.plain (OpenSpec.upto scriptChangesSpec)) scriptChangesUptoCard

/-- THE SECOND FORM's CARD OF 'crossbucklaw25.ScriptCalls'. -/
def scriptCallsUptoCard : Claim7 := { stood := { row := scriptCallsUptoRow, standIns := [], harness := (true, "4e4aef7e069febfc6066ab0c4f7bf4f61fac326d7b12935f57f572baf7d7f030"), looks := true }, kinds := [], alts := [], laidByText := true, laidKinds := [.data, .data, .data, .data, .data, .pinned], laidTests := true, laidLooks := .later }
def ScriptCallsUptoCardSaid : Prop := Claim7.holds Tryd.pinned (.plain (OpenSpec.upto scriptCallsSpec)) scriptCallsUptoCard

/-- THE SECOND FORM's CARD OF 'crossbucklaw25.ScriptBatches'. -/
def scriptBatchesUptoCard : Claim7 := { stood := { row := scriptBatchesUptoRow, standIns := [], harness := (true, "4e4aef7e069febfc6066ab0c4f7bf4f61fac326d7b12935f57f572baf7d7f030"), looks := true }, kinds := [], alts := [], laidByText := true, laidKinds := [.data, .data, .data, .data, .data, .pinned], laidTests := true, laidLooks := .later }
def ScriptBatchesUptoCardSaid : Prop := Claim7.holds Tryd.pinned (.plain (OpenSpec.upto scriptBatchesSpec)) scriptBatchesUptoCard
end Rows
end Go.Proofs.YtloclimoffhbhaaDoor
