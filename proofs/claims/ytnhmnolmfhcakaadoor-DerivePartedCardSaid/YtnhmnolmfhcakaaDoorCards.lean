/-
  DERIVED. GIVEN WITH THE SEED: THE CARDS: each row of YtnhmnolmfhcakaaDoorRows.lean that lists a variable, with what it lists TIED to the program's text (the seventh form; the later family's looks); each row that meets fmt, with fmt's text TOLD by the authors' own Lean function (tested against real Go, not proved from fmt's source: count such statements apart). THE CARD IS WHAT COUNTS. Prove the row's statement (the work); the ties are given (YtnhmnolmfhcakaaDoorTie.lean); close each card by the builder's one call (the guide's Derived/Test/ToyasCard.lean, 'card_holds'). Laid BY PROGRAM, IN A SANDBOX (cutbox-door.mjs). By AI agents, Wed Nov 11 2026. No macro, syntax, notation, axiom, sorry.
-/
import Derived.Test.YtnhmnolmfhcakaaDoorRows
import GoSem.ClaimSeven
namespace Go.Proofs.YtnhmnolmfhcakaaDoor
namespace Rows

/-- THE TIED CARD OF 'portmanteaulaw04.DeriveCodes'. -/
def deriveCodesCard : Claim7 := { stood := { row := deriveCodesRow, standIns := [], harness := (true, "e89072be727a47802c4cb1c92d93b4e823e6cf007cee26e25e81b6491b500422"), looks := false }, kinds := [], alts := [], laidByText := true, laidKinds := [.data], laidTests := true, laidLooks := .later }
def DeriveCodesCardSaid : Prop := Claim7.holds Tryd.pinned (.plain (OpenSpec.ofChange deriveCodesSpec)) deriveCodesCard

/-- THE TIED CARD OF 'portmanteaulaw04.DeriveParts'. -/
def derivePartsCard : Claim7 := { stood := { row := derivePartsRow, standIns := [], harness := (true, "e89072be727a47802c4cb1c92d93b4e823e6cf007cee26e25e81b6491b500422"), looks := false }, kinds := [], alts := [], laidByText := true, laidKinds := [.data], laidTests := true, laidLooks := .later }
def DerivePartsCardSaid : Prop := Claim7.holds Tryd.pinned (.plain (OpenSpec.ofChange derivePartsSpec)) derivePartsCard

/-- THE TIED CARD OF 'portmanteaulaw04.DeriveKeys'. -/
def deriveKeysCard : Claim7 := { stood := { row := deriveKeysRow, standIns := [], harness := (true, "e89072be727a47802c4cb1c92d93b4e823e6cf007cee26e25e81b6491b500422"), looks := false }, kinds := [], alts := [], laidByText := true, laidKinds := [.data], laidTests := true, laidLooks := .later }
def DeriveKeysCardSaid : Prop := Claim7.holds Tryd.pinned (.plain (OpenSpec.ofChange deriveKeysSpec)) deriveKeysCard

/-- THE TIED CARD OF 'portmanteaulaw04.DeriveLess'. -/
def deriveLessCard : Claim7 := { stood := { row := deriveLessRow, standIns := [], harness := (true, "e89072be727a47802c4cb1c92d93b4e823e6cf007cee26e25e81b6491b500422"), looks := false }, kinds := [], alts := [], laidByText := true, laidKinds := [.data], laidTests := true, laidLooks := .later }
def DeriveLessCardSaid : Prop := Claim7.holds Tryd.pinned (.plain (OpenSpec.ofChange deriveLessSpec)) deriveLessCard

/-- THE TIED CARD OF 'portmanteaulaw04.DeriveSame'. -/
def deriveSameCard : Claim7 := { stood := { row := deriveSameRow, standIns := [], harness := (true, "e89072be727a47802c4cb1c92d93b4e823e6cf007cee26e25e81b6491b500422"), looks := false }, kinds := [], alts := [], laidByText := true, laidKinds := [.data], laidTests := true, laidLooks := .later }
def DeriveSameCardSaid : Prop := Claim7.holds Tryd.pinned (.plain (OpenSpec.ofChange deriveSameSpec)) deriveSameCard

/-- THE TIED CARD OF 'portmanteaulaw04.DeriveLong'. -/
def deriveLongCard : Claim7 := { stood := { row := deriveLongRow, standIns := [], harness := (true, "e89072be727a47802c4cb1c92d93b4e823e6cf007cee26e25e81b6491b500422"), looks := false }, kinds := [], alts := [], laidByText := true, laidKinds := [.data], laidTests := true, laidLooks := .later }
def DeriveLongCardSaid : Prop := Claim7.holds Tryd.pinned (.plain (OpenSpec.ofChange deriveLongSpec)) deriveLongCard

/-- THE TIED CARD OF 'portmanteaulaw04.DeriveParted'. -/
def derivePartedCard : Claim7 := { stood := { row := derivePartedRow, standIns := [], harness := (true, "e89072be727a47802c4cb1c92d93b4e823e6cf007cee26e25e81b6491b500422"), looks := false }, kinds := [], alts := [], laidByText := true, laidKinds := [.data], laidTests := true, laidLooks := .later }
def DerivePartedCardSaid : Prop := Claim7.holds Tryd.pinned (.plain (OpenSpec.ofChange derivePartedSpec)) derivePartedCard

/-- THE SECOND FORM's CARD OF 'portmanteaulaw04.DeriveCodes'. -/
def deriveCodesUptoCard : Claim7 := { stood := { row := deriveCodesUptoRow, standIns := [], harness := (true, "e89072be727a47802c4cb1c92d93b4e823e6cf007cee26e25e81b6491b500422"), looks := false }, kinds := [], alts := [], laidByText := true, laidKinds := [.data], laidTests := true, laidLooks := .later }
def DeriveCodesUptoCardSaid : Prop := Claim7.holds Tryd.pinned (.plain (OpenSpec.upto deriveCodesSpec)) deriveCodesUptoCard

/-- THE SECOND FORM's CARD OF 'portmanteaulaw04.DeriveParts'. -/
def derivePartsUptoCard : Claim7 := { stood := { row := derivePartsUptoRow, standIns := [], harness := (true, "e89072be727a47802c4cb1c92d93b4e823e6cf007cee26e25e81b6491b500422"), looks := false }, kinds := [], alts := [], laidByText := true, laidKinds := [.data], laidTests := true, laidLooks := .later }
def DerivePartsUptoCardSaid : Prop := Claim7.holds Tryd.pinned (.plain (OpenSpec.upto derivePartsSpec)) derivePartsUptoCard

/-- THE SECOND FORM's CARD OF 'portmanteaulaw04.DeriveKeys'. -/
def deriveKeysUptoCard : Claim7 := { stood := { row := deriveKeysUptoRow, standIns := [], harness := (true, "e89072be727a47802c4cb1c92d93b4e823e6cf007cee26e25e81b6491b500422"), looks := false }, kinds := [], alts := [], laidByText := true, laidKinds := [.data], laidTests := true, laidLooks := .later }
def DeriveKeysUptoCardSaid : Prop := Claim7.holds Tryd.pinned (.plain (OpenSpec.upto deriveKeysSpec)) deriveKeysUptoCard

/-- THE SECOND FORM's CARD OF 'portmanteaulaw04.DeriveLess'. -/
def deriveLessUptoCard : Claim7 := { stood := { row := deriveLessUptoRow, standIns := [], harness := (true, "e89072be727a47802c4cb1c92d93b4e823e6cf007cee26e25e81b6491b500422"), looks := false }, kinds := [], alts := [], laidByText := true, laidKinds := [.data], laidTests := true, laidLooks := .later }
def DeriveLessUptoCardSaid : Prop := Claim7.holds Tryd.pinned (.plain (OpenSpec.upto deriveLessSpec)) deriveLessUptoCard

/-- THE SECOND FORM's CARD OF 'portmanteaulaw04.DeriveSame'. -/
def deriveSameUptoCard : Claim7 := { stood := { row := deriveSameUptoRow, standIns := [], harness := (true, "e89072be727a47802c4cb1c92d93b4e823e6cf007cee26e25e81b6491b500422"), looks := false }, kinds := [], alts := [], laidByText := true, laidKinds := [.data], laidTests := true, laidLooks := .later }
def DeriveSameUptoCardSaid : Prop := Claim7.holds Tryd.pinned (.plain (OpenSpec.upto deriveSameSpec)) deriveSameUptoCard

/-- THE SECOND FORM's CARD OF 'portmanteaulaw04.DeriveLong'. -/
def deriveLongUptoCard : Claim7 := { stood := { row := deriveLongUptoRow, standIns := [], harness := (true, "e89072be727a47802c4cb1c92d93b4e823e6cf007cee26e25e81b6491b500422"), looks := false }, kinds := [], alts := [], laidByText := true, laidKinds := [.data], laidTests := true, laidLooks := .later }
def DeriveLongUptoCardSaid : Prop := Claim7.holds Tryd.pinned (.plain (OpenSpec.upto deriveLongSpec)) deriveLongUptoCard

/-- THE SECOND FORM's CARD OF 'portmanteaulaw04.DeriveParted'. -/
def derivePartedUptoCard : Claim7 := { stood := { row := derivePartedUptoRow, standIns := [], harness := (true, "e89072be727a47802c4cb1c92d93b4e823e6cf007cee26e25e81b6491b500422"), looks := false }, kinds := [], alts := [], laidByText := true, laidKinds := [.data], laidTests := true, laidLooks := .later }
def DerivePartedUptoCardSaid : Prop := Claim7.holds Tryd.pinned (.plain (OpenSpec.upto derivePartedSpec)) derivePartedUptoCard
end Rows
end Go.Proofs.YtnhmnolmfhcakaaDoor
