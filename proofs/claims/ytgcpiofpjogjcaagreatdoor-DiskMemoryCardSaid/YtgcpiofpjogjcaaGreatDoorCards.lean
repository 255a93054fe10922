/-
  DERIVED. GIVEN WITH THE SEED: THE CARDS: each row of YtgcpiofpjogjcaaGreatDoorRows.lean that lists a variable, with what it lists TIED to the program's text (the seventh form; the later family's looks); each row that meets fmt, with fmt's text TOLD by the authors' own Lean function (tested against real Go, not proved from fmt's source: count such statements apart). THE CARD IS WHAT COUNTS. Prove the row's statement (the work); the ties are given (YtgcpiofpjogjcaaGreatDoorTie.lean); close each card by the builder's one call (the guide's Derived/Test/ToyasCard.lean, 'card_holds'). Laid BY PROGRAM, IN A SANDBOX (cutbox-door.mjs). By AI agents, Wed Nov 11 2026. No macro, syntax, notation, axiom, sorry.
-/
import Derived.Test.YtgcpiofpjogjcaaGreatDoorRows
import GoSem.ClaimSeven
namespace Go.Proofs.YtgcpiofpjogjcaaGreatDoor
namespace Rows

/-- THE TIED CARD OF 'stoalaw14.DiskMemory'. -/
def diskMemoryCard : Claim7 := { stood := { row := diskMemoryRow, standIns := [], harness := (true, "467025676044bc4ac3446ea958ccdff49adff70fbfd92eb6df3b0eb3ba723633"), looks := true }, kinds := [], alts := [], laidByText := true, laidKinds := [.data, .pinned], laidTests := true, laidLooks := .later }
def DiskMemoryCardSaid : Prop := Claim7.holds Tryz.pinned (.plain (OpenSpec.ofChange diskMemorySpec)) diskMemoryCard

/-- THE TIED CARD OF 'stoalaw14.DiskTwice'. -/
def diskTwiceCard : Claim7 := { stood := { row := diskTwiceRow, standIns := [], harness := (true, "467025676044bc4ac3446ea958ccdff49adff70fbfd92eb6df3b0eb3ba723633"), looks := true }, kinds := [], alts := [], laidByText := true, laidKinds := [.data, .pinned], laidTests := true, laidLooks := .later }
def DiskTwiceCardSaid : Prop := Claim7.holds Tryz.pinned (.plain (OpenSpec.ofChange diskTwiceSpec)) diskTwiceCard

/-- THE TIED CARD OF 'stoalaw14.DiskFails'. -/
def diskFailsCard : Claim7 := { stood := { row := diskFailsRow, standIns := [], harness := (true, "467025676044bc4ac3446ea958ccdff49adff70fbfd92eb6df3b0eb3ba723633"), looks := true }, kinds := [], alts := [], laidByText := true, laidKinds := [.data, .pinned], laidTests := true, laidLooks := .later }
def DiskFailsCardSaid : Prop := Claim7.holds Tryz.pinned (.plain (OpenSpec.ofChange diskFailsSpec)) diskFailsCard

/-- THE SECOND FORM's CARD OF 'stoalaw14.DiskMemory'. -/
def diskMemoryUptoCard : Claim7 := { stood := { row := diskMemoryUptoRow, standIns := [], harness := (true, "467025676044bc4ac3446ea958ccdff49adff70fbfd92eb6df3b0eb3ba723633"), looks := true }, kinds := [], alts := [], laidByText := true, laidKinds := [.data, .pinned], laidTests := true, laidLooks := .later }
def DiskMemoryUptoCardSaid : Prop := Claim7.holds Tryz.pinned (.plain (OpenSpec.upto diskMemorySpec)) diskMemoryUptoCard

/-- THE SECOND FORM's CARD OF 'stoalaw14.DiskTwice'. -/
def diskTwiceUptoCard : Claim7 := { stood := { row := diskTwiceUptoRow, standIns := [], harness := (true, "467025676044bc4ac3446ea958ccdff49adff70fbfd92eb6df3b0eb3ba723633"), looks := true }, kinds := [], alts := [], laidByText := true, laidKinds := [.data, .pinned], laidTests := true, laidLooks := .later }
def DiskTwiceUptoCardSaid : Prop := Claim7.holds Tryz.pinned (.plain (OpenSpec.upto diskTwiceSpec)) diskTwiceUptoCard

/-- THE SECOND FORM's CARD OF 'stoalaw14.DiskFails'. -/
def diskFailsUptoCard : Claim7 := { stood := { row := diskFailsUptoRow, standIns := [], harness := (true, "467025676044bc4ac3446ea958ccdff49adff70fbfd92eb6df3b0eb3ba723633"), looks := true }, kinds := [], alts := [], laidByText := true, laidKinds := [.data, .pinned], laidTests := true, laidLooks := .later }
def DiskFailsUptoCardSaid : Prop := Claim7.holds Tryz.pinned (.plain (OpenSpec.upto diskFailsSpec)) diskFailsUptoCard
end Rows
end Go.Proofs.YtgcpiofpjogjcaaGreatDoor
