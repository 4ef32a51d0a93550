/-
  DERIVED. GIVEN WITH THE SEED: THE CARDS: each row of YtibldhfgapjpfaaDoorRows.lean that lists a variable, with what it lists TIED to the program's text (the seventh form; the later family's looks); each row that meets fmt, with fmt's text TOLD by the authors' own Lean function (tested against real Go, not proved from fmt's source: count such statements apart). THE CARD IS WHAT COUNTS. Prove the row's statement (the work); the ties are given (YtibldhfgapjpfaaDoorTie.lean); close each card by the builder's one call (the guide's Derived/Test/ToyasCard.lean, 'card_holds'). Laid BY PROGRAM, IN A SANDBOX (cutbox-door.mjs). By AI agents, Wed Nov 11 2026. No macro, syntax, notation, axiom, sorry.
-/
import Derived.Test.YtibldhfgapjpfaaDoorRows
import GoSem.ClaimSeven
namespace Go.Proofs.YtibldhfgapjpfaaDoor
namespace Rows

/-- THE TIED CARD OF 'portmanteaulaw18.JournalAppends'. -/
def journalAppendsCard : Claim7 := { stood := { row := journalAppendsRow, standIns := [], harness := (true, "fc44e3d5df6cb4c9f0326173cf7602ba9bd43cdb0577c9e8a4e918bc61c9d32c"), looks := false }, kinds := [], alts := [], laidByText := true, laidKinds := [.data], laidTests := true, laidLooks := .later }
def JournalAppendsCardSaid : Prop := Claim7.holds Tryd.pinned (.plain (OpenSpec.ofChange journalAppendsSpec)) journalAppendsCard

/-- THE TIED CARD OF 'portmanteaulaw18.JournalScans'. -/
def journalScansCard : Claim7 := { stood := { row := journalScansRow, standIns := [], harness := (true, "fc44e3d5df6cb4c9f0326173cf7602ba9bd43cdb0577c9e8a4e918bc61c9d32c"), looks := false }, kinds := [], alts := [], laidByText := true, laidKinds := [.data], laidTests := true, laidLooks := .later }
def JournalScansCardSaid : Prop := Claim7.holds Tryd.pinned (.plain (OpenSpec.ofChange journalScansSpec)) journalScansCard

/-- THE TIED CARD OF 'portmanteaulaw18.JournalCuts'. -/
def journalCutsCard : Claim7 := { stood := { row := journalCutsRow, standIns := [], harness := (true, "fc44e3d5df6cb4c9f0326173cf7602ba9bd43cdb0577c9e8a4e918bc61c9d32c"), looks := false }, kinds := [], alts := [], laidByText := true, laidKinds := [.data], laidTests := true, laidLooks := .later }
def JournalCutsCardSaid : Prop := Claim7.holds Tryd.pinned (.plain (OpenSpec.ofChange journalCutsSpec)) journalCutsCard

/-- THE TIED CARD OF 'portmanteaulaw18.JournalLast'. -/
def journalLastCard : Claim7 := { stood := { row := journalLastRow, standIns := [], harness := (true, "fc44e3d5df6cb4c9f0326173cf7602ba9bd43cdb0577c9e8a4e918bc61c9d32c"), looks := false }, kinds := [], alts := [], laidByText := true, laidKinds := [.data], laidTests := true, laidLooks := .later }
def JournalLastCardSaid : Prop := Claim7.holds Tryd.pinned (.plain (OpenSpec.ofChange journalLastSpec)) journalLastCard

/-- THE TIED CARD OF 'portmanteaulaw18.JournalJoins'. -/
def journalJoinsCard : Claim7 := { stood := { row := journalJoinsRow, standIns := [], harness := (true, "fc44e3d5df6cb4c9f0326173cf7602ba9bd43cdb0577c9e8a4e918bc61c9d32c"), looks := false }, kinds := [], alts := [], laidByText := true, laidKinds := [.data], laidTests := true, laidLooks := .later }
def JournalJoinsCardSaid : Prop := Claim7.holds Tryd.pinned (.plain (OpenSpec.ofChange journalJoinsSpec)) journalJoinsCard

/-- THE TIED CARD OF 'portmanteaulaw18.JournalEach'. -/
def journalEachCard : Claim7 := { stood := { row := journalEachRow, standIns := [], harness := (true, "fc44e3d5df6cb4c9f0326173cf7602ba9bd43cdb0577c9e8a4e918bc61c9d32c"), looks := false }, kinds := [], alts := [], laidByText := true, laidKinds := [.data], laidTests := true, laidLooks := .later }
def JournalEachCardSaid : Prop := Claim7.holds Tryd.pinned (.plain (OpenSpec.ofChange journalEachSpec)) journalEachCard

/-- THE SECOND FORM's CARD OF 'portmanteaulaw18.JournalAppends'. -/
def journalAppendsUptoCard : Claim7 := { stood := { row := journalAppendsUptoRow, standIns := [], harness := (true, "fc44e3d5df6cb4c9f0326173cf7602ba9bd43cdb0577c9e8a4e918bc61c9d32c"), looks := false }, kinds := [], alts := [], laidByText := true, laidKinds := [.data], laidTests := true, laidLooks := .later }
def JournalAppendsUptoCardSaid : Prop := Claim7.holds Tryd.pinned (.plain (OpenSpec.upto journalAppendsSpec)) journalAppendsUptoCard

/-- THE SECOND FORM's CARD OF 'portmanteaulaw18.JournalScans'. -/
def journalScansUptoCard : Claim7 := { stood := { row := journalScansUptoRow, standIns := [], harness := (true, "fc44e3d5df6cb4c9f0326173cf7602ba9bd43cdb0577c9e8a4e918bc61c9d32c"), looks := false }, kinds := [], alts := [], laidByText := true, laidKinds := [.data], laidTests := true, laidLooks := .later }
def JournalScansUptoCardSaid : Prop := Claim7.holds Tryd.pinned (.plain (OpenSpec.upto journalScansSpec)) journalScansUptoCard

/-- THE SECOND FORM's CARD OF 'portmanteaulaw18.JournalCuts'. -/
def journalCutsUptoCard : Claim7 := { stood := { row := journalCutsUptoRow, standIns := [], harness := (true, "fc44e3d5df6cb4c9f0326173cf7602ba9bd43cdb0577c9e8a4e918bc61c9d32c"), looks := false }, kinds := [], alts := [], laidByText := true, laidKinds := [.data], laidTests := true, laidLooks := .later }
def JournalCutsUptoCardSaid : Prop := Claim7.holds Tryd.pinned (.plain (OpenSpec.upto journalCutsSpec)) journalCutsUptoCard

/-- THE SECOND FORM's CARD OF 'portmanteaulaw18.JournalLast'. -/
def journalLastUptoCard : Claim7 := { stood := { row := journalLastUptoRow, standIns := [], harness := (true, "fc44e3d5df6cb4c9f0326173cf7602ba9bd43cdb0577c9e8a4e918bc61c9d32c"), looks := false }, kinds := [], alts := [], laidByText := true, laidKinds := [.data], laidTests := true, laidLooks := .later }
def JournalLastUptoCardSaid : Prop := Claim7.holds Tryd.pinned (.plain (OpenSpec.upto journalLastSpec)) journalLastUptoCard

/-- THE SECOND FORM's CARD OF 'portmanteaulaw18.JournalJoins'. -/
def journalJoinsUptoCard : Claim7 := { stood := { row := journalJoinsUptoRow, standIns := [], harness := (true, "fc44e3d5df6cb4c9f0326173cf7602ba9bd43cdb0577c9e8a4e918bc61c9d32c"), looks := false }, kinds := [], alts := [], laidByText := true, laidKinds := [.data], laidTests := true, laidLooks := .later }
def JournalJoinsUptoCardSaid : Prop := Claim7.holds Tryd.pinned (.plain (OpenSpec.upto journalJoinsSpec)) journalJoinsUptoCard

/-- THE SECOND FORM's CARD OF 'portmanteaulaw18.JournalEach'. -/
def journalEachUptoCard : Claim7 := { stood := { row := journalEachUptoRow, standIns := [], harness := (true, "fc44e3d5df6cb4c9f0326173cf7602ba9bd43cdb0577c9e8a4e918bc61c9d32c"), looks := false }, kinds := [], alts := [], laidByText := true, laidKinds := [.data], laidTests := true, laidLooks := .later }
def JournalEachUptoCardSaid : Prop := Claim7.holds Tryd.pinned (.plain (OpenSpec.upto journalEachSpec)) journalEachUptoCard
end Rows
end Go.Proofs.YtibldhfgapjpfaaDoor
