/-
  DERIVED. GIVEN WITH THE SEED: THE CARDS: each row of YtlcgojhopdikbaaDoorRows.lean that lists a variable, with what it lists TIED to the program's text (the seventh form; the later family's looks); each row that meets fmt, with fmt's text TOLD by the authors' own Lean function (tested against real Go, not proved from fmt's source: count such statements apart). THE CARD IS WHAT COUNTS. Prove the row's statement (the work); the ties are given (YtlcgojhopdikbaaDoorTie.lean); close each card by the builder's one call (the guide's Derived/Test/ToyasCard.lean, 'card_holds'). Laid BY PROGRAM, IN A SANDBOX (cutbox-door.mjs). By AI agents, Wed Nov 11 2026. No macro, syntax, notation, axiom, sorry.
-/
import Derived.Test.YtlcgojhopdikbaaDoorRows
import GoSem.ClaimSeven
namespace Go.Proofs.YtlcgojhopdikbaaDoor
namespace Rows

/-- THE TIED CARD OF 'portmanteaulaw14.RecordPlans'. -/
def recordPlansCard : Claim7 := { stood := { row := recordPlansRow, standIns := [], harness := (true, "9d37cdd6b36f44076b13567f2dcbbe0e216080a979b562d91758a7a03b4d6e5d"), looks := false }, kinds := [], alts := [], laidByText := true, laidKinds := [.data], laidTests := true, laidLooks := .later }
def RecordPlansCardSaid : Prop := Claim7.holds Tryd.pinned (.plain (OpenSpec.ofChange recordPlansSpec)) recordPlansCard

/-- THE TIED CARD OF 'portmanteaulaw14.RecordReads'. -/
def recordReadsCard : Claim7 := { stood := { row := recordReadsRow, standIns := [], harness := (true, "9d37cdd6b36f44076b13567f2dcbbe0e216080a979b562d91758a7a03b4d6e5d"), looks := false }, kinds := [], alts := [], laidByText := true, laidKinds := [.data], laidTests := true, laidLooks := .later }
def RecordReadsCardSaid : Prop := Claim7.holds Tryd.pinned (.plain (OpenSpec.ofChange recordReadsSpec)) recordReadsCard

/-- THE TIED CARD OF 'portmanteaulaw14.RecordSizes'. -/
def recordSizesCard : Claim7 := { stood := { row := recordSizesRow, standIns := [], harness := (true, "9d37cdd6b36f44076b13567f2dcbbe0e216080a979b562d91758a7a03b4d6e5d"), looks := false }, kinds := [], alts := [], laidByText := true, laidKinds := [.data], laidTests := true, laidLooks := .later }
def RecordSizesCardSaid : Prop := Claim7.holds Tryd.pinned (.plain (OpenSpec.ofChange recordSizesSpec)) recordSizesCard

/-- THE TIED CARD OF 'portmanteaulaw14.RecordParts'. -/
def recordPartsCard : Claim7 := { stood := { row := recordPartsRow, standIns := [], harness := (true, "9d37cdd6b36f44076b13567f2dcbbe0e216080a979b562d91758a7a03b4d6e5d"), looks := false }, kinds := [], alts := [], laidByText := true, laidKinds := [.data], laidTests := true, laidLooks := .later }
def RecordPartsCardSaid : Prop := Claim7.holds Tryd.pinned (.plain (OpenSpec.ofChange recordPartsSpec)) recordPartsCard

/-- THE TIED CARD OF 'portmanteaulaw14.RecordEncodes'. -/
def recordEncodesCard : Claim7 := { stood := { row := recordEncodesRow, standIns := [], harness := (true, "9d37cdd6b36f44076b13567f2dcbbe0e216080a979b562d91758a7a03b4d6e5d"), looks := false }, kinds := [], alts := [], laidByText := true, laidKinds := [.data], laidTests := true, laidLooks := .later }
def RecordEncodesCardSaid : Prop := Claim7.holds Tryd.pinned (.plain (OpenSpec.ofChange recordEncodesSpec)) recordEncodesCard

/-- THE TIED CARD OF 'portmanteaulaw14.RecordOne'. -/
def recordOneCard : Claim7 := { stood := { row := recordOneRow, standIns := [], harness := (true, "9d37cdd6b36f44076b13567f2dcbbe0e216080a979b562d91758a7a03b4d6e5d"), looks := false }, kinds := [], alts := [], laidByText := true, laidKinds := [.data], laidTests := true, laidLooks := .later }
def RecordOneCardSaid : Prop := Claim7.holds Tryd.pinned (.plain (OpenSpec.ofChange recordOneSpec)) recordOneCard

/-- THE TIED CARD OF 'portmanteaulaw14.RecordTurned'. -/
def recordTurnedCard : Claim7 := { stood := { row := recordTurnedRow, standIns := [], harness := (true, "9d37cdd6b36f44076b13567f2dcbbe0e216080a979b562d91758a7a03b4d6e5d"), looks := false }, kinds := [], alts := [], laidByText := true, laidKinds := [.data], laidTests := true, laidLooks := .later }
def RecordTurnedCardSaid : Prop := Claim7.holds Tryd.pinned (.plain (OpenSpec.ofChange recordTurnedSpec)) recordTurnedCard

/-- THE TIED CARD OF 'portmanteaulaw14.RecordApart'. -/
def recordApartCard : Claim7 := { stood := { row := recordApartRow, standIns := [], harness := (true, "9d37cdd6b36f44076b13567f2dcbbe0e216080a979b562d91758a7a03b4d6e5d"), looks := false }, kinds := [], alts := [], laidByText := true, laidKinds := [.data], laidTests := true, laidLooks := .later }
def RecordApartCardSaid : Prop := Claim7.holds Tryd.pinned (.plain (OpenSpec.ofChange recordApartSpec)) recordApartCard

/-- THE SECOND FORM's CARD OF 'portmanteaulaw14.RecordPlans'. -/
def recordPlansUptoCard : Claim7 := { stood := { row := recordPlansUptoRow, standIns := [], harness := (true, "9d37cdd6b36f44076b13567f2dcbbe0e216080a979b562d91758a7a03b4d6e5d"), looks := false }, kinds := [], alts := [], laidByText := true, laidKinds := [.data], laidTests := true, laidLooks := .later }
def RecordPlansUptoCardSaid : Prop := Claim7.holds Tryd.pinned (.plain (OpenSpec.upto recordPlansSpec)) recordPlansUptoCard

/-- THE SECOND FORM's CARD OF 'portmanteaulaw14.RecordReads'. -/
def recordReadsUptoCard : Claim7 := { stood := { row := recordReadsUptoRow, standIns := [], harness := (true, "9d37cdd6b36f44076b13567f2dcbbe0e216080a979b562d91758a7a03b4d6e5d"), looks := false }, kinds := [], alts := [], laidByText := true, laidKinds := [.data], laidTests := true, laidLooks := .later }
def RecordReadsUptoCardSaid : Prop := Claim7.holds Tryd.pinned (.plain (OpenSpec.upto recordReadsSpec)) recordReadsUptoCard

/-- THE SECOND FORM's CARD OF 'portmanteaulaw14.RecordSizes'. -/
def recordSizesUptoCard : Claim7 := { stood := { row := recordSizesUptoRow, standIns := [], harness := (true, "9d37cdd6b36f44076b13567f2dcbbe0e216080a979b562d91758a7a03b4d6e5d"), looks := false }, kinds := [], alts := [], laidByText := true, laidKinds := [.data], laidTests := true, laidLooks := .later }
def RecordSizesUptoCardSaid : Prop := Claim7.holds Tryd.pinned (.plain (OpenSpec.upto recordSizesSpec)) recordSizesUptoCard

/-- THE SECOND FORM's CARD OF 'portmanteaulaw14.RecordParts'. -/
def recordPartsUptoCard : Claim7 := { stood := { row := recordPartsUptoRow, standIns := [], harness := (true, "9d37cdd6b36f44076b13567f2dcbbe0e216080a979b562d91758a7a03b4d6e5d"), looks := false }, kinds := [], alts := [], laidByText := true, laidKinds := [.data], laidTests := true, laidLooks := .later }
def RecordPartsUptoCardSaid : Prop := Claim7.holds Tryd.pinned (.plain (OpenSpec.upto recordPartsSpec)) recordPartsUptoCard

/-- THE SECOND FORM's CARD OF 'portmanteaulaw14.RecordEncodes'. -/
def recordEncodesUptoCard : Claim7 := { stood := { row := recordEncodesUptoRow, standIns := [], harness := (true, "9d37cdd6b36f44076b13567f2dcbbe0e216080a979b562d91758a7a03b4d6e5d"), looks := false }, kinds := [], alts := [], laidByText := true, laidKinds := [.data], laidTests := true, laidLooks := .later }
def RecordEncodesUptoCardSaid : Prop := Claim7.holds Tryd.pinned (.plain (OpenSpec.upto recordEncodesSpec)) recordEncodesUptoCard

/-- THE SECOND FORM's CARD OF 'portmanteaulaw14.RecordOne'. -/
def recordOneUptoCard : Claim7 := { stood := { row := recordOneUptoRow, standIns := [], harness := (true, "9d37cdd6b36f44076b13567f2dcbbe0e216080a979b562d91758a7a03b4d6e5d"), looks := false }, kinds := [], alts := [], laidByText := true, laidKinds := [.data], laidTests := true, laidLooks := .later }
def RecordOneUptoCardSaid : Prop := Claim7.holds Tryd.pinned (.plain (OpenSpec.upto recordOneSpec)) recordOneUptoCard

/-- THE SECOND FORM's CARD OF 'portmanteaulaw14.RecordTurned'. -/
def recordTurnedUptoCard : Claim7 := { stood := { row := recordTurnedUptoRow, standIns := [], harness := (true, "9d37cdd6b36f44076b13567f2dcbbe0e216080a979b562d91758a7a03b4d6e5d"), looks := false }, kinds := [], alts := [], laidByText := true, laidKinds := [.data], laidTests := true, laidLooks := .later }
def RecordTurnedUptoCardSaid : Prop := Claim7.holds Tryd.pinned (.plain (OpenSpec.upto recordTurnedSpec)) recordTurnedUptoCard

/-- THE SECOND FORM's CARD OF 'portmanteaulaw14.RecordApart'. -/
def recordApartUptoCard : Claim7 := { stood := { row := recordApartUptoRow, standIns := [], harness := (true, "9d37cdd6b36f44076b13567f2dcbbe0e216080a979b562d91758a7a03b4d6e5d"), looks := false }, kinds := [], alts := [], laidByText := true, laidKinds := [.data], laidTests := true, laidLooks := .later }
def RecordApartUptoCardSaid : Prop := Claim7.holds Tryd.pinned (.plain (OpenSpec.upto recordApartSpec)) recordApartUptoCard
end Rows
end Go.Proofs.YtlcgojhopdikbaaDoor
