/-
  DERIVED. GIVEN WITH THE SEED: THE CARDS: each row of YtjfohjfiaohfdaaDoorRows.lean that lists a variable, with what it lists TIED to the program's text (the seventh form; the later family's looks); each row that meets fmt, with fmt's text TOLD by the authors' own Lean function (tested against real Go, not proved from fmt's source: count such statements apart). THE CARD IS WHAT COUNTS. Prove the row's statement (the work); the ties are given (YtjfohjfiaohfdaaDoorTie.lean); close each card by the builder's one call (the guide's Derived/Test/ToyasCard.lean, 'card_holds'). Laid BY PROGRAM, IN A SANDBOX (cutbox-door.mjs). By AI agents, Wed Nov 11 2026. No macro, syntax, notation, axiom, sorry.
-/
import Derived.Test.YtjfohjfiaohfdaaDoorRows
import GoSem.ClaimSeven
namespace Go.Proofs.YtjfohjfiaohfdaaDoor
namespace Rows

/-- THE TIED CARD OF 'portmanteaulaw03.DigestOf'. -/
def digestOfCard : Claim7 := { stood := { row := digestOfRow, standIns := [], harness := (true, "a8471d27709dc127205298e252a6aff90c5465c7a5a1a38507f94fbe0ef14b35"), looks := false }, kinds := [], alts := [], laidByText := true, laidKinds := [.data], laidTests := true, laidLooks := .later }
def DigestOfCardSaid : Prop := Claim7.holds Tryd.pinned (.plain (OpenSpec.ofChange digestOfSpec)) digestOfCard

/-- THE TIED CARD OF 'portmanteaulaw03.DigestParts'. -/
def digestPartsCard : Claim7 := { stood := { row := digestPartsRow, standIns := [], harness := (true, "a8471d27709dc127205298e252a6aff90c5465c7a5a1a38507f94fbe0ef14b35"), looks := false }, kinds := [], alts := [], laidByText := true, laidKinds := [.data], laidTests := true, laidLooks := .later }
def DigestPartsCardSaid : Prop := Claim7.holds Tryd.pinned (.plain (OpenSpec.ofChange digestPartsSpec)) digestPartsCard

/-- THE TIED CARD OF 'portmanteaulaw03.DigestBlock'. -/
def digestBlockCard : Claim7 := { stood := { row := digestBlockRow, standIns := [], harness := (true, "a8471d27709dc127205298e252a6aff90c5465c7a5a1a38507f94fbe0ef14b35"), looks := false }, kinds := [], alts := [], laidByText := true, laidKinds := [.data], laidTests := true, laidLooks := .later }
def DigestBlockCardSaid : Prop := Claim7.holds Tryd.pinned (.plain (OpenSpec.ofChange digestBlockSpec)) digestBlockCard

/-- THE TIED CARD OF 'portmanteaulaw03.DigestPads'. -/
def digestPadsCard : Claim7 := { stood := { row := digestPadsRow, standIns := [], harness := (true, "a8471d27709dc127205298e252a6aff90c5465c7a5a1a38507f94fbe0ef14b35"), looks := false }, kinds := [], alts := [], laidByText := true, laidKinds := [.data], laidTests := true, laidLooks := .later }
def DigestPadsCardSaid : Prop := Claim7.holds Tryd.pinned (.plain (OpenSpec.ofChange digestPadsSpec)) digestPadsCard

/-- THE TIED CARD OF 'portmanteaulaw03.DigestSteps'. -/
def digestStepsCard : Claim7 := { stood := { row := digestStepsRow, standIns := [], harness := (true, "a8471d27709dc127205298e252a6aff90c5465c7a5a1a38507f94fbe0ef14b35"), looks := false }, kinds := [], alts := [], laidByText := true, laidKinds := [.data], laidTests := true, laidLooks := .later }
def DigestStepsCardSaid : Prop := Claim7.holds Tryd.pinned (.plain (OpenSpec.ofChange digestStepsSpec)) digestStepsCard

/-- THE TIED CARD OF 'portmanteaulaw03.DigestGoesOn'. -/
def digestGoesOnCard : Claim7 := { stood := { row := digestGoesOnRow, standIns := [], harness := (true, "a8471d27709dc127205298e252a6aff90c5465c7a5a1a38507f94fbe0ef14b35"), looks := false }, kinds := [], alts := [], laidByText := true, laidKinds := [.data], laidTests := true, laidLooks := .later }
def DigestGoesOnCardSaid : Prop := Claim7.holds Tryd.pinned (.plain (OpenSpec.ofChange digestGoesOnSpec)) digestGoesOnCard

/-- THE SECOND FORM's CARD OF 'portmanteaulaw03.DigestOf'. -/
def digestOfUptoCard : Claim7 := { stood := { row := digestOfUptoRow, standIns := [], harness := (true, "a8471d27709dc127205298e252a6aff90c5465c7a5a1a38507f94fbe0ef14b35"), looks := false }, kinds := [], alts := [], laidByText := true, laidKinds := [.data], laidTests := true, laidLooks := .later }
def DigestOfUptoCardSaid : Prop := Claim7.holds Tryd.pinned (.plain (OpenSpec.upto digestOfSpec)) digestOfUptoCard

/-- THE SECOND FORM's CARD OF 'portmanteaulaw03.DigestParts'. -/
def digestPartsUptoCard : Claim7 := { stood := { row := digestPartsUptoRow, standIns := [], harness := (true, "a8471d27709dc127205298e252a6aff90c5465c7a5a1a38507f94fbe0ef14b35"), looks := false }, kinds := [], alts := [], laidByText := true, laidKinds := [.data], laidTests := true, laidLooks := .later }
def DigestPartsUptoCardSaid : Prop := Claim7.holds Tryd.pinned (.plain (OpenSpec.upto digestPartsSpec)) digestPartsUptoCard

/-- THE SECOND FORM's CARD OF 'portmanteaulaw03.DigestBlock'. -/
def digestBlockUptoCard : Claim7 := { stood := { row := digestBlockUptoRow, standIns := [], harness := (true, "a8471d27709dc127205298e252a6aff90c5465c7a5a1a38507f94fbe0ef14b35"), looks := false }, kinds := [], alts := [], laidByText := true, laidKinds := [.data], laidTests := true, laidLooks := .later }
def DigestBlockUptoCardSaid : Prop := Claim7.holds Tryd.pinned (.plain (OpenSpec.upto digestBlockSpec)) digestBlockUptoCard

/-- THE SECOND FORM's CARD OF 'portmanteaulaw03.DigestPads'. -/
def digestPadsUptoCard : Claim7 := { stood := { row := digestPadsUptoRow, standIns := [], harness := (true, "a8471d27709dc127205298e252a6aff90c5465c7a5a1a38507f94fbe0ef14b35"), looks := false }, kinds := [], alts := [], laidByText := true, laidKinds := [.data], laidTests := true, laidLooks := .later }
def DigestPadsUptoCardSaid : Prop := Claim7.holds Tryd.pinned (.plain (OpenSpec.upto digestPadsSpec)) digestPadsUptoCard

/-- THE SECOND FORM's CARD OF 'portmanteaulaw03.DigestSteps'. -/
def digestStepsUptoCard : Claim7 := { stood := { row := digestStepsUptoRow, standIns := [], harness := (true, "a8471d27709dc127205298e252a6aff90c5465c7a5a1a38507f94fbe0ef14b35"), looks := false }, kinds := [], alts := [], laidByText := true, laidKinds := [.data], laidTests := true, laidLooks := .later }
def DigestStepsUptoCardSaid : Prop := Claim7.holds Tryd.pinned (.plain (OpenSpec.upto digestStepsSpec)) digestStepsUptoCard

/-- THE SECOND FORM's CARD OF 'portmanteaulaw03.DigestGoesOn'. -/
def digestGoesOnUptoCard : Claim7 := { stood := { row := digestGoesOnUptoRow, standIns := [], harness := (true, "a8471d27709dc127205298e252a6aff90c5465c7a5a1a38507f94fbe0ef14b35"), looks := false }, kinds := [], alts := [], laidByText := true, laidKinds := [.data], laidTests := true, laidLooks := .later }
def DigestGoesOnUptoCardSaid : Prop := Claim7.holds Tryd.pinned (.plain (OpenSpec.upto digestGoesOnSpec)) digestGoesOnUptoCard
end Rows
end Go.Proofs.YtjfohjfiaohfdaaDoor
