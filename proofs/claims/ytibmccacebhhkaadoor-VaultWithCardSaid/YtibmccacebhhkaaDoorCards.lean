/-
  DERIVED. GIVEN WITH THE SEED: THE CARDS: each row of YtibmccacebhhkaaDoorRows.lean that lists a variable, with what it lists TIED to the program's text (the seventh form; the later family's looks); each row that meets fmt, with fmt's text TOLD by the authors' own Lean function (tested against real Go, not proved from fmt's source: count such statements apart). THE CARD IS WHAT COUNTS. Prove the row's statement (the work); the ties are given (YtibmccacebhhkaaDoorTie.lean); close each card by the builder's one call (the guide's Derived/Test/ToyasCard.lean, 'card_holds'). Laid BY PROGRAM, IN A SANDBOX (cutbox-door.mjs). By AI agents, Wed Nov 11 2026. No macro, syntax, notation, axiom, sorry.
-/
import Derived.Test.YtibmccacebhhkaaDoorRows
import GoSem.ClaimSeven
namespace Go.Proofs.YtibmccacebhhkaaDoor
namespace Rows

/-- THE TIED CARD OF 'sackbutlaw25.VaultNames'. -/
def vaultNamesCard : Claim7 := { stood := { row := vaultNamesRow, standIns := [], harness := (true, "befd33c438df96eb8918c194a9cbb05a43a1793848649395ecc58b965139a69d"), looks := false }, kinds := [], alts := [], laidByText := true, laidKinds := [.data], laidTests := true, laidLooks := .later }
def VaultNamesCardSaid : Prop := Claim7.holds Tryd.pinned (.plain (OpenSpec.ofChange vaultNamesSpec)) vaultNamesCard

/-- THE TIED CARD OF 'sackbutlaw25.VaultPacks'. -/
def vaultPacksCard : Claim7 := { stood := { row := vaultPacksRow, standIns := [], harness := (true, "befd33c438df96eb8918c194a9cbb05a43a1793848649395ecc58b965139a69d"), looks := false }, kinds := [], alts := [], laidByText := true, laidKinds := [.data], laidTests := true, laidLooks := .later }
def VaultPacksCardSaid : Prop := Claim7.holds Tryd.pinned (.plain (OpenSpec.ofChange vaultPacksSpec)) vaultPacksCard

/-- THE TIED CARD OF 'sackbutlaw25.VaultUnpacks'. -/
def vaultUnpacksCard : Claim7 := { stood := { row := vaultUnpacksRow, standIns := [], harness := (true, "befd33c438df96eb8918c194a9cbb05a43a1793848649395ecc58b965139a69d"), looks := false }, kinds := [], alts := [], laidByText := true, laidKinds := [.data], laidTests := true, laidLooks := .later }
def VaultUnpacksCardSaid : Prop := Claim7.holds Tryd.pinned (.plain (OpenSpec.ofChange vaultUnpacksSpec)) vaultUnpacksCard

/-- THE TIED CARD OF 'sackbutlaw25.VaultFinds'. -/
def vaultFindsCard : Claim7 := { stood := { row := vaultFindsRow, standIns := [], harness := (true, "befd33c438df96eb8918c194a9cbb05a43a1793848649395ecc58b965139a69d"), looks := false }, kinds := [], alts := [], laidByText := true, laidKinds := [.data], laidTests := true, laidLooks := .later }
def VaultFindsCardSaid : Prop := Claim7.holds Tryd.pinned (.plain (OpenSpec.ofChange vaultFindsSpec)) vaultFindsCard

/-- THE TIED CARD OF 'sackbutlaw25.VaultWith'. -/
def vaultWithCard : Claim7 := { stood := { row := vaultWithRow, standIns := [], harness := (true, "befd33c438df96eb8918c194a9cbb05a43a1793848649395ecc58b965139a69d"), looks := false }, kinds := [], alts := [], laidByText := true, laidKinds := [.data], laidTests := true, laidLooks := .later }
def VaultWithCardSaid : Prop := Claim7.holds Tryd.pinned (.plain (OpenSpec.ofChange vaultWithSpec)) vaultWithCard

/-- THE SECOND FORM's CARD OF 'sackbutlaw25.VaultNames'. -/
def vaultNamesUptoCard : Claim7 := { stood := { row := vaultNamesUptoRow, standIns := [], harness := (true, "befd33c438df96eb8918c194a9cbb05a43a1793848649395ecc58b965139a69d"), looks := false }, kinds := [], alts := [], laidByText := true, laidKinds := [.data], laidTests := true, laidLooks := .later }
def VaultNamesUptoCardSaid : Prop := Claim7.holds Tryd.pinned (.plain (OpenSpec.upto vaultNamesSpec)) vaultNamesUptoCard

/-- THE SECOND FORM's CARD OF 'sackbutlaw25.VaultPacks'. -/
def vaultPacksUptoCard : Claim7 := { stood := { row := vaultPacksUptoRow, standIns := [], harness := (true, "befd33c438df96eb8918c194a9cbb05a43a1793848649395ecc58b965139a69d"), looks := false }, kinds := [], alts := [], laidByText := true, laidKinds := [.data], laidTests := true, laidLooks := .later }
def VaultPacksUptoCardSaid : Prop := Claim7.holds Tryd.pinned (.plain (OpenSpec.upto vaultPacksSpec)) vaultPacksUptoCard

/-- THE SECOND FORM's CARD OF 'sackbutlaw25.VaultUnpacks'. -/
def vaultUnpacksUptoCard : Claim7 := { stood := { row := vaultUnpacksUptoRow, standIns := [], harness := (true, "befd33c438df96eb8918c194a9cbb05a43a1793848649395ecc58b965139a69d"), looks := false }, kinds := [], alts := [], laidByText := true, laidKinds := [.data], laidTests := true, laidLooks := .later }
def VaultUnpacksUptoCardSaid : Prop := Claim7.holds Tryd.pinned (.plain (OpenSpec.upto vaultUnpacksSpec)) vaultUnpacksUptoCard

/-- THE SECOND FORM's CARD OF 'sackbutlaw25.VaultFinds'. -/
def vaultFindsUptoCard : Claim7 := { stood := { row := vaultFindsUptoRow, standIns := [], harness := (true, "befd33c438df96eb8918c194a9cbb05a43a1793848649395ecc58b965139a69d"), looks := false }, kinds := [], alts := [], laidByText := true, laidKinds := [.data], laidTests := true, laidLooks := .later }
def VaultFindsUptoCardSaid : Prop := Claim7.holds Tryd.pinned (.plain (OpenSpec.upto vaultFindsSpec)) vaultFindsUptoCard

/-- THE SECOND FORM's CARD OF 'sackbutlaw25.VaultWith'. -/
def vaultWithUptoCard : Claim7 := { stood := { row := vaultWithUptoRow, standIns := [], harness := (true, "befd33c438df96eb8918c194a9cbb05a43a1793848649395ecc58b965139a69d"), looks := false }, kinds := [], alts := [], laidByText := true, laidKinds := [.data], laidTests := true, laidLooks := .later }
def VaultWithUptoCardSaid : Prop := Claim7.holds Tryd.pinned (.plain (OpenSpec.upto vaultWithSpec)) vaultWithUptoCard
end Rows
end Go.Proofs.YtibmccacebhhkaaDoor
