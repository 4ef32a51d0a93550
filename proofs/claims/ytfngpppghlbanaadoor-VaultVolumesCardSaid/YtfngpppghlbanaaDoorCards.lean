/-
  DERIVED. GIVEN WITH THE SEED: THE CARDS: each row of YtfngpppghlbanaaDoorRows.lean that lists a variable, with what it lists TIED to the program's text (the seventh form; the later family's looks); each row that meets fmt, with fmt's text TOLD by the authors' own Lean function (tested against real Go, not proved from fmt's source: count such statements apart). THE CARD IS WHAT COUNTS. Prove the row's statement (the work); the ties are given (YtfngpppghlbanaaDoorTie.lean); close each card by the builder's one call (the guide's Derived/Test/ToyasCard.lean, 'card_holds'). Laid BY PROGRAM, IN A SANDBOX (cutbox-door.mjs). By AI agents, Wed Nov 11 2026. No macro, syntax, notation, axiom, sorry.
-/
import Derived.Test.YtfngpppghlbanaaDoorRows
import GoSem.ClaimSeven
namespace Go.Proofs.YtfngpppghlbanaaDoor
namespace Rows

/-- THE TIED CARD OF 'portmanteaulaw17.VaultKeys'. -/
def vaultKeysCard : Claim7 := { stood := { row := vaultKeysRow, standIns := [], harness := (true, "f95bd56e4d7860820efa4b9cfc5e449fa8e8236eb45de74e5eb35028913c7759"), looks := false }, kinds := [], alts := [], laidByText := true, laidKinds := [.data], laidTests := true, laidLooks := .later }
def VaultKeysCardSaid : Prop := Claim7.holds Tryd.pinned (.plain (OpenSpec.ofChange vaultKeysSpec)) vaultKeysCard

/-- THE TIED CARD OF 'portmanteaulaw17.VaultBack'. -/
def vaultBackCard : Claim7 := { stood := { row := vaultBackRow, standIns := [], harness := (true, "f95bd56e4d7860820efa4b9cfc5e449fa8e8236eb45de74e5eb35028913c7759"), looks := false }, kinds := [], alts := [], laidByText := true, laidKinds := [.data], laidTests := true, laidLooks := .later }
def VaultBackCardSaid : Prop := Claim7.holds Tryd.pinned (.plain (OpenSpec.ofChange vaultBackSpec)) vaultBackCard

/-- THE TIED CARD OF 'portmanteaulaw17.VaultCloses'. -/
def vaultClosesCard : Claim7 := { stood := { row := vaultClosesRow, standIns := [], harness := (true, "f95bd56e4d7860820efa4b9cfc5e449fa8e8236eb45de74e5eb35028913c7759"), looks := false }, kinds := [], alts := [], laidByText := true, laidKinds := [.data], laidTests := true, laidLooks := .later }
def VaultClosesCardSaid : Prop := Claim7.holds Tryd.pinned (.plain (OpenSpec.ofChange vaultClosesSpec)) vaultClosesCard

/-- THE TIED CARD OF 'portmanteaulaw17.VaultLong'. -/
def vaultLongCard : Claim7 := { stood := { row := vaultLongRow, standIns := [], harness := (true, "f95bd56e4d7860820efa4b9cfc5e449fa8e8236eb45de74e5eb35028913c7759"), looks := false }, kinds := [], alts := [], laidByText := true, laidKinds := [.data], laidTests := true, laidLooks := .later }
def VaultLongCardSaid : Prop := Claim7.holds Tryd.pinned (.plain (OpenSpec.ofChange vaultLongSpec)) vaultLongCard

/-- THE TIED CARD OF 'portmanteaulaw17.VaultVolumes'. -/
def vaultVolumesCard : Claim7 := { stood := { row := vaultVolumesRow, standIns := [], harness := (true, "f95bd56e4d7860820efa4b9cfc5e449fa8e8236eb45de74e5eb35028913c7759"), looks := false }, kinds := [], alts := [], laidByText := true, laidKinds := [.data], laidTests := true, laidLooks := .later }
def VaultVolumesCardSaid : Prop := Claim7.holds Tryd.pinned (.plain (OpenSpec.ofChange vaultVolumesSpec)) vaultVolumesCard

/-- THE SECOND FORM's CARD OF 'portmanteaulaw17.VaultKeys'. -/
def vaultKeysUptoCard : Claim7 := { stood := { row := vaultKeysUptoRow, standIns := [], harness := (true, "f95bd56e4d7860820efa4b9cfc5e449fa8e8236eb45de74e5eb35028913c7759"), looks := false }, kinds := [], alts := [], laidByText := true, laidKinds := [.data], laidTests := true, laidLooks := .later }
def VaultKeysUptoCardSaid : Prop := Claim7.holds Tryd.pinned (.plain (OpenSpec.upto vaultKeysSpec)) vaultKeysUptoCard

/-- THE SECOND FORM's CARD OF 'portmanteaulaw17.VaultBack'. -/
def vaultBackUptoCard : Claim7 := { stood := { row := vaultBackUptoRow, standIns := [], harness := (true, "f95bd56e4d7860820efa4b9cfc5e449fa8e8236eb45de74e5eb35028913c7759"), looks := false }, kinds := [], alts := [], laidByText := true, laidKinds := [.data], laidTests := true, laidLooks := .later }
def VaultBackUptoCardSaid : Prop := Claim7.holds Tryd.pinned (.plain (OpenSpec.upto vaultBackSpec)) vaultBackUptoCard

/-- THE SECOND FORM's CARD OF 'portmanteaulaw17.VaultCloses'. -/
def vaultClosesUptoCard : Claim7 := { stood := { row := vaultClosesUptoRow, standIns := [], harness := (true, "f95bd56e4d7860820efa4b9cfc5e449fa8e8236eb45de74e5eb35028913c7759"), looks := false }, kinds := [], alts := [], laidByText := true, laidKinds := [.data], laidTests := true, laidLooks := .later }
def VaultClosesUptoCardSaid : Prop := Claim7.holds Tryd.pinned (.plain (OpenSpec.upto vaultClosesSpec)) vaultClosesUptoCard

/-- THE SECOND FORM's CARD OF 'portmanteaulaw17.VaultLong'. -/
def vaultLongUptoCard : Claim7 := { stood := { row := vaultLongUptoRow, standIns := [], harness := (true, "f95bd56e4d7860820efa4b9cfc5e449fa8e8236eb45de74e5eb35028913c7759"), looks := false }, kinds := [], alts := [], laidByText := true, laidKinds := [.data], laidTests := true, laidLooks := .later }
def VaultLongUptoCardSaid : Prop := Claim7.holds Tryd.pinned (.plain (OpenSpec.upto vaultLongSpec)) vaultLongUptoCard

/-- THE SECOND FORM's CARD OF 'portmanteaulaw17.VaultVolumes'. -/
def vaultVolumesUptoCard : Claim7 := { stood := { row := vaultVolumesUptoRow, standIns := [], harness := (true, "f95bd56e4d7860820efa4b9cfc5e449fa8e8236eb45de74e5eb35028913c7759"), looks := false }, kinds := [], alts := [], laidByText := true, laidKinds := [.data], laidTests := true, laidLooks := .later }
def VaultVolumesUptoCardSaid : Prop := Claim7.holds Tryd.pinned (.plain (OpenSpec.upto vaultVolumesSpec)) vaultVolumesUptoCard
end Rows
end Go.Proofs.YtfngpppghlbanaaDoor
