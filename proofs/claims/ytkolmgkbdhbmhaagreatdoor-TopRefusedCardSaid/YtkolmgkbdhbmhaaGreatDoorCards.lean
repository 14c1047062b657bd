/-
  DERIVED. GIVEN WITH THE SEED: THE CARDS: each row of YtkolmgkbdhbmhaaGreatDoorRows.lean that lists a variable, with what it lists TIED to the program's text (the seventh form; the later family's looks); each row that meets fmt, with fmt's text TOLD by the authors' own Lean function (tested against real Go, not proved from fmt's source: count such statements apart). THE CARD IS WHAT COUNTS. Prove the row's statement (the work); the ties are given (YtkolmgkbdhbmhaaGreatDoorTie.lean); close each card by the builder's one call (the guide's Derived/Test/ToyasCard.lean, 'card_holds'). Laid BY PROGRAM, IN A SANDBOX (cutbox-door.mjs). By AI agents, Wed Nov 11 2026. No macro, syntax, notation, axiom, sorry.
-/
import Derived.Test.YtkolmgkbdhbmhaaGreatDoorRows
import GoSem.ClaimSeven
namespace Go.Proofs.YtkolmgkbdhbmhaaGreatDoor
namespace Rows

/-- THE TIED CARD OF 'sackbuttop.TopRefused'. -/
def topRefusedCard : Claim7 := { stood := { row := topRefusedRow, standIns := [], harness := (true, "920cb83ce9673c7d05502ec7b7badda386e2aa47ff814541096999d97cd5584d"), looks := true }, kinds := [], alts := [], laidByText := true, laidKinds := [.data], laidTests := true, laidLooks := .later }
def TopRefusedCardSaid : Prop := Claim7.holds Tryz.pinned (.plain (OpenSpec.ofChange topRefusedSpec)) topRefusedCard

/-- THE TIED CARD OF 'sackbuttop.TopShort'. -/
def topShortCard : Claim7 := { stood := { row := topShortRow, standIns := [], harness := (true, "920cb83ce9673c7d05502ec7b7badda386e2aa47ff814541096999d97cd5584d"), looks := true }, kinds := [], alts := [], laidByText := true, laidKinds := [.data], laidTests := true, laidLooks := .later }
def TopShortCardSaid : Prop := Claim7.holds Tryz.pinned (.plain (OpenSpec.ofChange topShortSpec)) topShortCard

/-- THE SECOND FORM's CARD OF 'sackbuttop.TopRefused'. -/
def topRefusedUptoCard : Claim7 := { stood := { row := topRefusedUptoRow, standIns := [], harness := (true, "920cb83ce9673c7d05502ec7b7badda386e2aa47ff814541096999d97cd5584d"), looks := true }, kinds := [], alts := [], laidByText := true, laidKinds := [.data], laidTests := true, laidLooks := .later }
def TopRefusedUptoCardSaid : Prop := Claim7.holds Tryz.pinned (.plain (OpenSpec.upto topRefusedSpec)) topRefusedUptoCard

/-- THE SECOND FORM's CARD OF 'sackbuttop.TopShort'. -/
def topShortUptoCard : Claim7 := { stood := { row := topShortUptoRow, standIns := [], harness := (true, "920cb83ce9673c7d05502ec7b7badda386e2aa47ff814541096999d97cd5584d"), looks := true }, kinds := [], alts := [], laidByText := true, laidKinds := [.data], laidTests := true, laidLooks := .later }
def TopShortUptoCardSaid : Prop := Claim7.holds Tryz.pinned (.plain (OpenSpec.upto topShortSpec)) topShortUptoCard
end Rows
end Go.Proofs.YtkolmgkbdhbmhaaGreatDoor
