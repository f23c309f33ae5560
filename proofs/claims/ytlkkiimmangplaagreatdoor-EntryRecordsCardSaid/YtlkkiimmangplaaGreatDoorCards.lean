/-
  DERIVED. GIVEN WITH THE SEED: THE CARDS: each row of YtlkkiimmangplaaGreatDoorRows.lean that lists a variable, with what it lists TIED to the program's text (the seventh form; the later family's looks); each row that meets fmt, with fmt's text TOLD by the authors' own Lean function (tested against real Go, not proved from fmt's source: count such statements apart). THE CARD IS WHAT COUNTS. Prove the row's statement (the work); the ties are given (YtlkkiimmangplaaGreatDoorTie.lean); close each card by the builder's one call (the guide's Derived/Test/ToyasCard.lean, 'card_holds'). Laid BY PROGRAM, IN A SANDBOX (cutbox-door.mjs). By AI agents, Wed Nov 11 2026. No macro, syntax, notation, axiom, sorry.
-/
import Derived.Test.YtlkkiimmangplaaGreatDoorRows
import GoSem.ClaimSeven
namespace Go.Proofs.YtlkkiimmangplaaGreatDoor
namespace Rows

/-- THE TIED CARD OF 'dasdlaw38.GenerationNumbers'. -/
def generationNumbersCard : Claim7 := { stood := { row := generationNumbersRow, standIns := [], harness := (true, "1f55a028107fcf6cc6d30742e76c2172639d12f8ca8a28f69385b22ba6fbaccc"), looks := false }, kinds := [], alts := [], laidByText := true, laidKinds := [.data, .data, .data, .data, .pinned], laidTests := true, laidLooks := .later }
def GenerationNumbersCardSaid : Prop := Claim7.holds Tryz.pinned (.plain (OpenSpec.ofChange generationNumbersSpec)) generationNumbersCard

/-- THE TIED CARD OF 'dasdlaw38.GenerationSeveral'. -/
def generationSeveralCard : Claim7 := { stood := { row := generationSeveralRow, standIns := [], harness := (true, "1f55a028107fcf6cc6d30742e76c2172639d12f8ca8a28f69385b22ba6fbaccc"), looks := false }, kinds := [], alts := [], laidByText := true, laidKinds := [.data, .data, .data, .data, .pinned], laidTests := true, laidLooks := .later }
def GenerationSeveralCardSaid : Prop := Claim7.holds Tryz.pinned (.plain (OpenSpec.ofChange generationSeveralSpec)) generationSeveralCard

/-- THE TIED CARD OF 'dasdlaw38.GenerationKeeps'. -/
def generationKeepsCard : Claim7 := { stood := { row := generationKeepsRow, standIns := [], harness := (true, "1f55a028107fcf6cc6d30742e76c2172639d12f8ca8a28f69385b22ba6fbaccc"), looks := false }, kinds := [], alts := [], laidByText := true, laidKinds := [.data, .data, .data, .data, .pinned], laidTests := true, laidLooks := .later }
def GenerationKeepsCardSaid : Prop := Claim7.holds Tryz.pinned (.plain (OpenSpec.ofChange generationKeepsSpec)) generationKeepsCard

/-- THE TIED CARD OF 'dasdlaw38.GenerationGreatest'. -/
def generationGreatestCard : Claim7 := { stood := { row := generationGreatestRow, standIns := [], harness := (true, "1f55a028107fcf6cc6d30742e76c2172639d12f8ca8a28f69385b22ba6fbaccc"), looks := false }, kinds := [], alts := [], laidByText := true, laidKinds := [.data, .data, .data, .data, .pinned], laidTests := true, laidLooks := .later }
def GenerationGreatestCardSaid : Prop := Claim7.holds Tryz.pinned (.plain (OpenSpec.ofChange generationGreatestSpec)) generationGreatestCard

/-- THE TIED CARD OF 'dasdlaw38.GenerationRelative'. -/
def generationRelativeCard : Claim7 := { stood := { row := generationRelativeRow, standIns := [], harness := (true, "1f55a028107fcf6cc6d30742e76c2172639d12f8ca8a28f69385b22ba6fbaccc"), looks := false }, kinds := [], alts := [], laidByText := true, laidKinds := [.data, .data, .data, .data, .pinned], laidTests := true, laidLooks := .later }
def GenerationRelativeCardSaid : Prop := Claim7.holds Tryz.pinned (.plain (OpenSpec.ofChange generationRelativeSpec)) generationRelativeCard

/-- THE TIED CARD OF 'dasdtop.TopAccess'. -/
def topAccessCard : Claim7 := { stood := { row := topAccessRow, standIns := [], harness := (true, "1f55a028107fcf6cc6d30742e76c2172639d12f8ca8a28f69385b22ba6fbaccc"), looks := false }, kinds := [], alts := [], laidByText := true, laidKinds := [.data, .data, .data, .data, .pinned], laidTests := true, laidLooks := .later }
def TopAccessCardSaid : Prop := Claim7.holds Tryz.pinned (.plain (OpenSpec.ofChange topAccessSpec)) topAccessCard

/-- THE TIED CARD OF 'dasdlaw38.GenerationRolls'. -/
def generationRollsCard : Claim7 := { stood := { row := generationRollsRow, standIns := [], harness := (true, "1f55a028107fcf6cc6d30742e76c2172639d12f8ca8a28f69385b22ba6fbaccc"), looks := false }, kinds := [], alts := [], laidByText := true, laidKinds := [.data, .data, .data, .data, .pinned], laidTests := true, laidLooks := .later }
def GenerationRollsCardSaid : Prop := Claim7.holds Tryz.pinned (.plain (OpenSpec.ofChange generationRollsSpec)) generationRollsCard

/-- THE TIED CARD OF 'dasdlaw38.GenerationLimits'. -/
def generationLimitsCard : Claim7 := { stood := { row := generationLimitsRow, standIns := [], harness := (true, "1f55a028107fcf6cc6d30742e76c2172639d12f8ca8a28f69385b22ba6fbaccc"), looks := false }, kinds := [], alts := [], laidByText := true, laidKinds := [.data, .data, .data, .data, .pinned], laidTests := true, laidLooks := .later }
def GenerationLimitsCardSaid : Prop := Claim7.holds Tryz.pinned (.plain (OpenSpec.ofChange generationLimitsSpec)) generationLimitsCard

/-- THE TIED CARD OF 'dasdlaw33.EntryForms'. -/
def entryFormsCard : Claim7 := { stood := { row := entryFormsRow, standIns := [], harness := (true, "1f55a028107fcf6cc6d30742e76c2172639d12f8ca8a28f69385b22ba6fbaccc"), looks := false }, kinds := [], alts := [], laidByText := true, laidKinds := [.data, .data, .data, .data, .pinned], laidTests := true, laidLooks := .later }
def EntryFormsCardSaid : Prop := Claim7.holds Tryz.pinned (.plain (OpenSpec.ofChange entryFormsSpec)) entryFormsCard

/-- THE TIED CARD OF 'dasdlaw33.EntryRecords'. -/
def entryRecordsCard : Claim7 := { stood := { row := entryRecordsRow, standIns := [], harness := (true, "1f55a028107fcf6cc6d30742e76c2172639d12f8ca8a28f69385b22ba6fbaccc"), looks := false }, kinds := [], alts := [], laidByText := true, laidKinds := [.data, .data, .data, .data, .pinned], laidTests := true, laidLooks := .later }
def EntryRecordsCardSaid : Prop := Claim7.holds Tryz.pinned (.plain (OpenSpec.ofChange entryRecordsSpec)) entryRecordsCard

/-- THE TIED CARD OF 'dasdlaw33.EntryDecodes'. -/
def entryDecodesCard : Claim7 := { stood := { row := entryDecodesRow, standIns := [], harness := (true, "1f55a028107fcf6cc6d30742e76c2172639d12f8ca8a28f69385b22ba6fbaccc"), looks := false }, kinds := [], alts := [], laidByText := true, laidKinds := [.data, .data, .data, .data, .pinned], laidTests := true, laidLooks := .later }
def EntryDecodesCardSaid : Prop := Claim7.holds Tryz.pinned (.plain (OpenSpec.ofChange entryDecodesSpec)) entryDecodesCard

/-- THE TIED CARD OF 'dasdlaw33.EntryReturns'. -/
def entryReturnsCard : Claim7 := { stood := { row := entryReturnsRow, standIns := [], harness := (true, "1f55a028107fcf6cc6d30742e76c2172639d12f8ca8a28f69385b22ba6fbaccc"), looks := false }, kinds := [], alts := [], laidByText := true, laidKinds := [.data, .data, .data, .data, .pinned], laidTests := true, laidLooks := .later }
def EntryReturnsCardSaid : Prop := Claim7.holds Tryz.pinned (.plain (OpenSpec.ofChange entryReturnsSpec)) entryReturnsCard

/-- THE TIED CARD OF 'dasdlaw33.EntryStrict'. -/
def entryStrictCard : Claim7 := { stood := { row := entryStrictRow, standIns := [], harness := (true, "1f55a028107fcf6cc6d30742e76c2172639d12f8ca8a28f69385b22ba6fbaccc"), looks := false }, kinds := [], alts := [], laidByText := true, laidKinds := [.data, .data, .data, .data, .pinned], laidTests := true, laidLooks := .later }
def EntryStrictCardSaid : Prop := Claim7.holds Tryz.pinned (.plain (OpenSpec.ofChange entryStrictSpec)) entryStrictCard

/-- THE TIED CARD OF 'dasdlaw33.EntryKeys'. -/
def entryKeysCard : Claim7 := { stood := { row := entryKeysRow, standIns := [], harness := (true, "1f55a028107fcf6cc6d30742e76c2172639d12f8ca8a28f69385b22ba6fbaccc"), looks := false }, kinds := [], alts := [], laidByText := true, laidKinds := [.data, .data, .data, .data, .pinned], laidTests := true, laidLooks := .later }
def EntryKeysCardSaid : Prop := Claim7.holds Tryz.pinned (.plain (OpenSpec.ofChange entryKeysSpec)) entryKeysCard

/-- THE TIED CARD OF 'dasdlaw33.EntryCuts'. -/
def entryCutsCard : Claim7 := { stood := { row := entryCutsRow, standIns := [], harness := (true, "1f55a028107fcf6cc6d30742e76c2172639d12f8ca8a28f69385b22ba6fbaccc"), looks := false }, kinds := [], alts := [], laidByText := true, laidKinds := [.data, .data, .data, .data, .pinned], laidTests := true, laidLooks := .later }
def EntryCutsCardSaid : Prop := Claim7.holds Tryz.pinned (.plain (OpenSpec.ofChange entryCutsSpec)) entryCutsCard

/-- THE TIED CARD OF 'dasdlaw34.AccessLevels'. -/
def accessLevelsCard : Claim7 := { stood := { row := accessLevelsRow, standIns := [], harness := (true, "1f55a028107fcf6cc6d30742e76c2172639d12f8ca8a28f69385b22ba6fbaccc"), looks := false }, kinds := [], alts := [], laidByText := true, laidKinds := [.data, .data, .data, .data, .pinned], laidTests := true, laidLooks := .later }
def AccessLevelsCardSaid : Prop := Claim7.holds Tryz.pinned (.plain (OpenSpec.ofChange accessLevelsSpec)) accessLevelsCard

/-- THE TIED CARD OF 'dasdlaw34.AccessNeeds'. -/
def accessNeedsCard : Claim7 := { stood := { row := accessNeedsRow, standIns := [], harness := (true, "1f55a028107fcf6cc6d30742e76c2172639d12f8ca8a28f69385b22ba6fbaccc"), looks := false }, kinds := [], alts := [], laidByText := true, laidKinds := [.data, .data, .data, .data, .pinned], laidTests := true, laidLooks := .later }
def AccessNeedsCardSaid : Prop := Claim7.holds Tryz.pinned (.plain (OpenSpec.ofChange accessNeedsSpec)) accessNeedsCard

/-- THE TIED CARD OF 'dasdlaw34.AccessChecks'. -/
def accessChecksCard : Claim7 := { stood := { row := accessChecksRow, standIns := [], harness := (true, "1f55a028107fcf6cc6d30742e76c2172639d12f8ca8a28f69385b22ba6fbaccc"), looks := false }, kinds := [], alts := [], laidByText := true, laidKinds := [.data, .data, .data, .data, .pinned], laidTests := true, laidLooks := .later }
def AccessChecksCardSaid : Prop := Claim7.holds Tryz.pinned (.plain (OpenSpec.ofChange accessChecksSpec)) accessChecksCard

/-- THE TIED CARD OF 'dasdlaw34.AccessErrors'. -/
def accessErrorsCard : Claim7 := { stood := { row := accessErrorsRow, standIns := [], harness := (true, "1f55a028107fcf6cc6d30742e76c2172639d12f8ca8a28f69385b22ba6fbaccc"), looks := false }, kinds := [], alts := [], laidByText := true, laidKinds := [.data, .data, .data, .data, .pinned], laidTests := true, laidLooks := .later }
def AccessErrorsCardSaid : Prop := Claim7.holds Tryz.pinned (.plain (OpenSpec.ofChange accessErrorsSpec)) accessErrorsCard

/-- THE TIED CARD OF 'dasdlaw34.AccessPersons'. -/
def accessPersonsCard : Claim7 := { stood := { row := accessPersonsRow, standIns := [], harness := (true, "1f55a028107fcf6cc6d30742e76c2172639d12f8ca8a28f69385b22ba6fbaccc"), looks := false }, kinds := [], alts := [], laidByText := true, laidKinds := [.data, .data, .data, .data, .pinned], laidTests := true, laidLooks := .later }
def AccessPersonsCardSaid : Prop := Claim7.holds Tryz.pinned (.plain (OpenSpec.ofChange accessPersonsSpec)) accessPersonsCard

/-- THE TIED CARD OF 'dasdlaw37.RebuildNotes'. -/
def rebuildNotesCard : Claim7 := { stood := { row := rebuildNotesRow, standIns := [], harness := (true, "1f55a028107fcf6cc6d30742e76c2172639d12f8ca8a28f69385b22ba6fbaccc"), looks := false }, kinds := [], alts := [], laidByText := true, laidKinds := [.data, .data, .data, .data, .pinned], laidTests := true, laidLooks := .later }
def RebuildNotesCardSaid : Prop := Claim7.holds Tryz.pinned (.plain (OpenSpec.ofChange rebuildNotesSpec)) rebuildNotesCard

/-- THE TIED CARD OF 'dasdlaw37.RebuildReturns'. -/
def rebuildReturnsCard : Claim7 := { stood := { row := rebuildReturnsRow, standIns := [], harness := (true, "1f55a028107fcf6cc6d30742e76c2172639d12f8ca8a28f69385b22ba6fbaccc"), looks := false }, kinds := [], alts := [], laidByText := true, laidKinds := [.data, .data, .data, .data, .pinned], laidTests := true, laidLooks := .later }
def RebuildReturnsCardSaid : Prop := Claim7.holds Tryz.pinned (.plain (OpenSpec.ofChange rebuildReturnsSpec)) rebuildReturnsCard

/-- THE TIED CARD OF 'dasdlaw37.RebuildCompares'. -/
def rebuildComparesCard : Claim7 := { stood := { row := rebuildComparesRow, standIns := [], harness := (true, "1f55a028107fcf6cc6d30742e76c2172639d12f8ca8a28f69385b22ba6fbaccc"), looks := false }, kinds := [], alts := [], laidByText := true, laidKinds := [.data, .data, .data, .data, .pinned], laidTests := true, laidLooks := .later }
def RebuildComparesCardSaid : Prop := Claim7.holds Tryz.pinned (.plain (OpenSpec.ofChange rebuildComparesSpec)) rebuildComparesCard

/-- THE SECOND FORM's CARD OF 'dasdlaw38.GenerationNumbers'. -/
def generationNumbersUptoCard : Claim7 := { stood := { row := generationNumbersUptoRow, standIns := [], harness := (true, "1f55a028107fcf6cc6d30742e76c2172639d12f8ca8a28f69385b22ba6fbaccc"), looks := false }, kinds := [], alts := [], laidByText := true, laidKinds := [.data, .data, .data, .data, .pinned], laidTests := true, laidLooks := .later }
def GenerationNumbersUptoCardSaid : Prop := Claim7.holds Tryz.pinned (.plain (OpenSpec.upto generationNumbersSpec)) generationNumbersUptoCard

/-- THE SECOND FORM's CARD OF 'dasdlaw38.GenerationSeveral'. -/
def generationSeveralUptoCard : Claim7 := { stood := { row := generationSeveralUptoRow, standIns := [], harness := (true, "1f55a028107fcf6cc6d30742e76c2172639d12f8ca8a28f69385b22ba6fbaccc"), looks := false }, kinds := [], alts := [], laidByText := true, laidKinds := [.data, .data, .data, .data, .pinned], laidTests := true, laidLooks := .later }
def GenerationSeveralUptoCardSaid : Prop := Claim7.holds Tryz.pinned (.plain (OpenSpec.upto generationSeveralSpec)) generationSeveralUptoCard

/-- THE SECOND FORM's CARD OF 'dasdlaw38.GenerationKeeps'. -/
def generationKeepsUptoCard : Claim7 := { stood := { row := generationKeepsUptoRow, standIns := [], harness := (true, "1f55a028107fcf6cc6d30742e76c2172639d12f8ca8a28f69385b22ba6fbaccc"), looks := false }, kinds := [], alts := [], laidByText := true, laidKinds := [.data, .data, .data, .data, .pinned], laidTests := true, laidLooks := .later }
def GenerationKeepsUptoCardSaid : Prop := Claim7.holds Tryz.pinned (.plain (OpenSpec.upto generationKeepsSpec)) generationKeepsUptoCard

/-- THE SECOND FORM's CARD OF 'dasdlaw38.GenerationGreatest'. -/
def generationGreatestUptoCard : Claim7 := { stood := { row := generationGreatestUptoRow, standIns := [], harness := (true, "1f55a028107fcf6cc6d30742e76c2172639d12f8ca8a28f69385b22ba6fbaccc"), looks := false }, kinds := [], alts := [], laidByText := true, laidKinds := [.data, .data, .data, .data, .pinned], laidTests := true, laidLooks := .later }
def GenerationGreatestUptoCardSaid : Prop := Claim7.holds Tryz.pinned (.plain (OpenSpec.upto generationGreatestSpec)) generationGreatestUptoCard

/-- THE SECOND FORM's CARD OF 'dasdlaw38.GenerationRelative'. -/
def generationRelativeUptoCard : Claim7 := { stood := { row := generationRelativeUptoRow, standIns := [], harness := (true, "1f55a028107fcf6cc6d30742e76c2172639d12f8ca8a28f69385b22ba6fbaccc"), looks := false }, kinds := [], alts := [], laidByText := true, laidKinds := [.data, .data, .data, .data, .pinned], laidTests := true, laidLooks := .later }
def GenerationRelativeUptoCardSaid : Prop := Claim7.holds Tryz.pinned (.plain (OpenSpec.upto generationRelativeSpec)) generationRelativeUptoCard

/-- THE SECOND FORM's CARD OF 'dasdtop.TopAccess'. -/
def topAccessUptoCard : Claim7 := { stood := { row := topAccessUptoRow, standIns := [], harness := (true, "1f55a028107fcf6cc6d30742e76c2172639d12f8ca8a28f69385b22ba6fbaccc"), looks := false }, kinds := [], alts := [], laidByText := true, laidKinds := [.data, .data, .data, .data, .pinned], laidTests := true, laidLooks := .later }
def TopAccessUptoCardSaid : Prop := Claim7.holds Tryz.pinned (.plain (OpenSpec.upto topAccessSpec)) topAccessUptoCard

/-- THE SECOND FORM's CARD OF 'dasdlaw38.GenerationRolls'. -/
def generationRollsUptoCard : Claim7 := { stood := { row := generationRollsUptoRow, standIns := [], harness := (true, "1f55a028107fcf6cc6d30742e76c2172639d12f8ca8a28f69385b22ba6fbaccc"), looks := false }, kinds := [], alts := [], laidByText := true, laidKinds := [.data, .data, .data, .data, .pinned], laidTests := true, laidLooks := .later }
def GenerationRollsUptoCardSaid : Prop := Claim7.holds Tryz.pinned (.plain (OpenSpec.upto generationRollsSpec)) generationRollsUptoCard

/-- THE SECOND FORM's CARD OF 'dasdlaw38.GenerationLimits'. -/
def generationLimitsUptoCard : Claim7 := { stood := { row := generationLimitsUptoRow, standIns := [], harness := (true, "1f55a028107fcf6cc6d30742e76c2172639d12f8ca8a28f69385b22ba6fbaccc"), looks := false }, kinds := [], alts := [], laidByText := true, laidKinds := [.data, .data, .data, .data, .pinned], laidTests := true, laidLooks := .later }
def GenerationLimitsUptoCardSaid : Prop := Claim7.holds Tryz.pinned (.plain (OpenSpec.upto generationLimitsSpec)) generationLimitsUptoCard

/-- THE SECOND FORM's CARD OF 'dasdlaw33.EntryForms'. -/
def entryFormsUptoCard : Claim7 := { stood := { row := entryFormsUptoRow, standIns := [], harness := (true, "1f55a028107fcf6cc6d30742e76c2172639d12f8ca8a28f69385b22ba6fbaccc"), looks := false }, kinds := [], alts := [], laidByText := true, laidKinds := [.data, .data, .data, .data, .pinned], laidTests := true, laidLooks := .later }
def EntryFormsUptoCardSaid : Prop := Claim7.holds Tryz.pinned (.plain (OpenSpec.upto entryFormsSpec)) entryFormsUptoCard

/-- THE SECOND FORM's CARD OF 'dasdlaw33.EntryRecords'. -/
def entryRecordsUptoCard : Claim7 := { stood := { row := entryRecordsUptoRow, standIns := [], harness := (true, "1f55a028107fcf6cc6d30742e76c2172639d12f8ca8a28f69385b22ba6fbaccc"), looks := false }, kinds := [], alts := [], laidByText := true, laidKinds := [.data, .data, .data, .data, .pinned], laidTests := true, laidLooks := .later }
def EntryRecordsUptoCardSaid : Prop := Claim7.holds Tryz.pinned (.plain (OpenSpec.upto entryRecordsSpec)) entryRecordsUptoCard

/-- THE SECOND FORM's CARD OF 'dasdlaw33.EntryDecodes'. -/
def entryDecodesUptoCard : Claim7 := { stood := { row := entryDecodesUptoRow, standIns := [], harness := (true, "1f55a028107fcf6cc6d30742e76c2172639d12f8ca8a28f69385b22ba6fbaccc"), looks := false }, kinds := [], alts := [], laidByText := true, laidKinds := [.data, .data, .data, .data, .pinned], laidTests := true, laidLooks := .later }
def EntryDecodesUptoCardSaid : Prop := Claim7.holds Tryz.pinned (.plain (OpenSpec.upto entryDecodesSpec)) entryDecodesUptoCard

/-- THE SECOND FORM's CARD OF 'dasdlaw33.EntryReturns'. -/
def entryReturnsUptoCard : Claim7 := { stood := { row := entryReturnsUptoRow, standIns := [], harness := (true, "1f55a028107fcf6cc6d30742e76c2172639d12f8ca8a28f69385b22ba6fbaccc"), looks := false }, kinds := [], alts := [], laidByText := true, laidKinds := [.data, .data, .data, .data, .pinned], laidTests := true, laidLooks := .later }
def EntryReturnsUptoCardSaid : Prop := Claim7.holds Tryz.pinned (.plain (OpenSpec.upto entryReturnsSpec)) entryReturnsUptoCard

/-- THE SECOND FORM's CARD OF 'dasdlaw33.EntryStrict'. -/
def entryStrictUptoCard : Claim7 := { stood := { row := entryStrictUptoRow, standIns := [], harness := (true, "1f55a028107fcf6cc6d30742e76c2172639d12f8ca8a28f69385b22ba6fbaccc"), looks := false }, kinds := [], alts := [], laidByText := true, laidKinds := [.data, .data, .data, .data, .pinned], laidTests := true, laidLooks := .later }
def EntryStrictUptoCardSaid : Prop := Claim7.holds Tryz.pinned (.plain (OpenSpec.upto entryStrictSpec)) entryStrictUptoCard

/-- THE SECOND FORM's CARD OF 'dasdlaw33.EntryKeys'. -/
def entryKeysUptoCard : Claim7 := { stood := { row := entryKeysUptoRow, standIns := [], harness := (true, "1f55a028107fcf6cc6d30742e76c2172639d12f8ca8a28f69385b22ba6fbaccc"), looks := false }, kinds := [], alts := [], laidByText := true, laidKinds := [.data, .data, .data, .data, .pinned], laidTests := true, laidLooks := .later }
def EntryKeysUptoCardSaid : Prop := Claim7.holds Tryz.pinned (.plain (OpenSpec.upto entryKeysSpec)) entryKeysUptoCard

/-- THE SECOND FORM's CARD OF 'dasdlaw33.EntryCuts'. -/
def entryCutsUptoCard : Claim7 := { stood := { row := entryCutsUptoRow, standIns := [], harness := (true, "1f55a028107fcf6cc6d30742e76c2172639d12f8ca8a28f69385b22ba6fbaccc"), looks := false }, kinds := [], alts := [], laidByText := true, laidKinds := [.data, .data, .data, .data, .pinned], laidTests := true, laidLooks := .later }
def EntryCutsUptoCardSaid : Prop := Claim7.holds Tryz.pinned (.plain (OpenSpec.upto entryCutsSpec)) entryCutsUptoCard

/-- THE SECOND FORM's CARD OF 'dasdlaw34.AccessLevels'. -/
def accessLevelsUptoCard : Claim7 := { stood := { row := accessLevelsUptoRow, standIns := [], harness := (true, "1f55a028107fcf6cc6d30742e76c2172639d12f8ca8a28f69385b22ba6fbaccc"), looks := false }, kinds := [], alts := [], laidByText := true, laidKinds := [.data, .data, .data, .data, .pinned], laidTests := true, laidLooks := .later }
def AccessLevelsUptoCardSaid : Prop := Claim7.holds Tryz.pinned (.plain (OpenSpec.upto accessLevelsSpec)) accessLevelsUptoCard

/-- THE SECOND FORM's CARD OF 'dasdlaw34.AccessNeeds'. -/
def accessNeedsUptoCard : Claim7 := { stood := { row := accessNeedsUptoRow, standIns := [], harness := (true, "1f55a028107fcf6cc6d30742e76c2172639d12f8ca8a28f69385b22ba6fbaccc"), looks := false }, kinds := [], alts := [], laidByText := true, laidKinds := [.data, .data, .data, .data, .pinned], laidTests := true, laidLooks := .later }
def AccessNeedsUptoCardSaid : Prop := Claim7.holds Tryz.pinned (.plain (OpenSpec.upto accessNeedsSpec)) accessNeedsUptoCard

/-- THE SECOND FORM's CARD OF 'dasdlaw34.AccessChecks'. -/
def accessChecksUptoCard : Claim7 := { stood := { row := accessChecksUptoRow, standIns := [], harness := (true, "1f55a028107fcf6cc6d30742e76c2172639d12f8ca8a28f69385b22ba6fbaccc"), looks := false }, kinds := [], alts := [], laidByText := true, laidKinds := [.data, .data, .data, .data, .pinned], laidTests := true, laidLooks := .later }
def AccessChecksUptoCardSaid : Prop := Claim7.holds Tryz.pinned (.plain (OpenSpec.upto accessChecksSpec)) accessChecksUptoCard

/-- THE SECOND FORM's CARD OF 'dasdlaw34.AccessErrors'. -/
def accessErrorsUptoCard : Claim7 := { stood := { row := accessErrorsUptoRow, standIns := [], harness := (true, "1f55a028107fcf6cc6d30742e76c2172639d12f8ca8a28f69385b22ba6fbaccc"), looks := false }, kinds := [], alts := [], laidByText := true, laidKinds := [.data, .data, .data, .data, .pinned], laidTests := true, laidLooks := .later }
def AccessErrorsUptoCardSaid : Prop := Claim7.holds Tryz.pinned (.plain (OpenSpec.upto accessErrorsSpec)) accessErrorsUptoCard

/-- THE SECOND FORM's CARD OF 'dasdlaw34.AccessPersons'. -/
def accessPersonsUptoCard : Claim7 := { stood := { row := accessPersonsUptoRow, standIns := [], harness := (true, "1f55a028107fcf6cc6d30742e76c2172639d12f8ca8a28f69385b22ba6fbaccc"), looks := false }, kinds := [], alts := [], laidByText := true, laidKinds := [.data, .data, .data, .data, .pinned], laidTests := true, laidLooks := .later }
def AccessPersonsUptoCardSaid : Prop := Claim7.holds Tryz.pinned (.plain (OpenSpec.upto accessPersonsSpec)) accessPersonsUptoCard

/-- THE SECOND FORM's CARD OF 'dasdlaw37.RebuildNotes'. -/
def rebuildNotesUptoCard : Claim7 := { stood := { row := rebuildNotesUptoRow, standIns := [], harness := (true, "1f55a028107fcf6cc6d30742e76c2172639d12f8ca8a28f69385b22ba6fbaccc"), looks := false }, kinds := [], alts := [], laidByText := true, laidKinds := [.data, .data, .data, .data, .pinned], laidTests := true, laidLooks := .later }
def RebuildNotesUptoCardSaid : Prop := Claim7.holds Tryz.pinned (.plain (OpenSpec.upto rebuildNotesSpec)) rebuildNotesUptoCard

/-- THE SECOND FORM's CARD OF 'dasdlaw37.RebuildReturns'. -/
def rebuildReturnsUptoCard : Claim7 := { stood := { row := rebuildReturnsUptoRow, standIns := [], harness := (true, "1f55a028107fcf6cc6d30742e76c2172639d12f8ca8a28f69385b22ba6fbaccc"), looks := false }, kinds := [], alts := [], laidByText := true, laidKinds := [.data, .data, .data, .data, .pinned], laidTests := true, laidLooks := .later }
def RebuildReturnsUptoCardSaid : Prop := Claim7.holds Tryz.pinned (.plain (OpenSpec.upto rebuildReturnsSpec)) rebuildReturnsUptoCard

/-- THE SECOND FORM's CARD OF 'dasdlaw37.RebuildCompares'. -/
def rebuildComparesUptoCard : Claim7 := { stood := { row := rebuildComparesUptoRow, standIns := [], harness := (true, "1f55a028107fcf6cc6d30742e76c2172639d12f8ca8a28f69385b22ba6fbaccc"), looks := false }, kinds := [], alts := [], laidByText := true, laidKinds := [.data, .data, .data, .data, .pinned], laidTests := true, laidLooks := .later }
def RebuildComparesUptoCardSaid : Prop := Claim7.holds Tryz.pinned (.plain (OpenSpec.upto rebuildComparesSpec)) rebuildComparesUptoCard
end Rows
end Go.Proofs.YtlkkiimmangplaaGreatDoor
