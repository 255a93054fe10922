/-
  DERIVED. GIVEN WITH THE SEED: THE CARDS: each row of YtgcpiofpjogjcaaDoorRows.lean that lists a variable, with what it lists TIED to the program's text (the seventh form; the later family's looks); each row that meets fmt, with fmt's text TOLD by the authors' own Lean function (tested against real Go, not proved from fmt's source: count such statements apart). THE CARD IS WHAT COUNTS. Prove the row's statement (the work); the ties are given (YtgcpiofpjogjcaaDoorTie.lean); close each card by the builder's one call (the guide's Derived/Test/ToyasCard.lean, 'card_holds'). Laid BY PROGRAM, IN A SANDBOX (cutbox-door.mjs). By AI agents, Wed Nov 11 2026. No macro, syntax, notation, axiom, sorry.
-/
import Derived.Test.YtgcpiofpjogjcaaDoorRows
import GoSem.ClaimSeven
namespace Go.Proofs.YtgcpiofpjogjcaaDoor
namespace Rows

/-- THE TIED CARD OF 'stoalaw14.DiskSafe'. -/
def diskSafeCard : Claim7 := { stood := { row := diskSafeRow, standIns := [], harness := (true, "ed25ac902798315cfc2809bc697826b3a0cc36822c24f6ff56a91eaff2aa8cc8"), looks := true }, kinds := [], alts := [], laidByText := true, laidKinds := [.data, .pinned], laidTests := true, laidLooks := .later }
def DiskSafeCardSaid : Prop := Claim7.holds Tryd.pinned (.plain (OpenSpec.ofChange diskSafeSpec)) diskSafeCard

/-- THE TIED CARD OF 'stoalaw14.DiskSwaps'. -/
def diskSwapsCard : Claim7 := { stood := { row := diskSwapsRow, standIns := [], harness := (true, "ed25ac902798315cfc2809bc697826b3a0cc36822c24f6ff56a91eaff2aa8cc8"), looks := true }, kinds := [], alts := [], laidByText := true, laidKinds := [.data, .pinned], laidTests := true, laidLooks := .later }
def DiskSwapsCardSaid : Prop := Claim7.holds Tryd.pinned (.plain (OpenSpec.ofChange diskSwapsSpec)) diskSwapsCard

/-- THE SECOND FORM's CARD OF 'stoalaw14.DiskSafe'. -/
def diskSafeUptoCard : Claim7 := { stood := { row := diskSafeUptoRow, standIns := [], harness := (true, "ed25ac902798315cfc2809bc697826b3a0cc36822c24f6ff56a91eaff2aa8cc8"), looks := true }, kinds := [], alts := [], laidByText := true, laidKinds := [.data, .pinned], laidTests := true, laidLooks := .later }
def DiskSafeUptoCardSaid : Prop := Claim7.holds Tryd.pinned (.plain (OpenSpec.upto diskSafeSpec)) diskSafeUptoCard

/-- THE SECOND FORM's CARD OF 'stoalaw14.DiskSwaps'. -/
def diskSwapsUptoCard : Claim7 := { stood := { row := diskSwapsUptoRow, standIns := [], harness := (true, "ed25ac902798315cfc2809bc697826b3a0cc36822c24f6ff56a91eaff2aa8cc8"), looks := true }, kinds := [], alts := [], laidByText := true, laidKinds := [.data, .pinned], laidTests := true, laidLooks := .later }
def DiskSwapsUptoCardSaid : Prop := Claim7.holds Tryd.pinned (.plain (OpenSpec.upto diskSwapsSpec)) diskSwapsUptoCard
end Rows
end Go.Proofs.YtgcpiofpjogjcaaDoor
