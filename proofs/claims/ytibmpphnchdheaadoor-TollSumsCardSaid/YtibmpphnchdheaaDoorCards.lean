/-
  DERIVED. GIVEN WITH THE SEED: THE CARDS: each row of YtibmpphnchdheaaDoorRows.lean that lists a variable, with what it lists TIED to the program's text (the seventh form; the later family's looks); each row that meets fmt, with fmt's text TOLD by the authors' own Lean function (tested against real Go, not proved from fmt's source: count such statements apart). THE CARD IS WHAT COUNTS. Prove the row's statement (the work); the ties are given (YtibmpphnchdheaaDoorTie.lean); close each card by the builder's one call (the guide's Derived/Test/ToyasCard.lean, 'card_holds'). Laid BY PROGRAM, IN A SANDBOX (cutbox-door.mjs). By AI agents, Wed Nov 11 2026. No macro, syntax, notation, axiom, sorry.
-/
import Derived.Test.YtibmpphnchdheaaDoorRows
import GoSem.ClaimSeven
namespace Go.Proofs.YtibmpphnchdheaaDoor
namespace Rows

/-- THE TIED CARD OF 'sackbutlaw04.TollWindow'. -/
def tollWindowCard : Claim7 := { stood := { row := tollWindowRow, standIns := [], harness := (true, "c5bbb90095ae505c02cf0184b8911e18a7feef2b806241394b02cd0391b0a2e3"), looks := false }, kinds := [], alts := [], laidByText := true, laidKinds := [.data], laidTests := true, laidLooks := .later }
def TollWindowCardSaid : Prop := Claim7.holds Tryd.pinned (.plain (OpenSpec.ofChange tollWindowSpec)) tollWindowCard

/-- THE TIED CARD OF 'sackbutlaw04.TollSums'. -/
def tollSumsCard : Claim7 := { stood := { row := tollSumsRow, standIns := [], harness := (true, "c5bbb90095ae505c02cf0184b8911e18a7feef2b806241394b02cd0391b0a2e3"), looks := false }, kinds := [], alts := [], laidByText := true, laidKinds := [.data], laidTests := true, laidLooks := .later }
def TollSumsCardSaid : Prop := Claim7.holds Tryd.pinned (.plain (OpenSpec.ofChange tollSumsSpec)) tollSumsCard

/-- THE TIED CARD OF 'sackbutlaw04.TollParts'. -/
def tollPartsCard : Claim7 := { stood := { row := tollPartsRow, standIns := [], harness := (true, "c5bbb90095ae505c02cf0184b8911e18a7feef2b806241394b02cd0391b0a2e3"), looks := false }, kinds := [], alts := [], laidByText := true, laidKinds := [.data], laidTests := true, laidLooks := .later }
def TollPartsCardSaid : Prop := Claim7.holds Tryd.pinned (.plain (OpenSpec.ofChange tollPartsSpec)) tollPartsCard

/-- THE SECOND FORM's CARD OF 'sackbutlaw04.TollWindow'. -/
def tollWindowUptoCard : Claim7 := { stood := { row := tollWindowUptoRow, standIns := [], harness := (true, "c5bbb90095ae505c02cf0184b8911e18a7feef2b806241394b02cd0391b0a2e3"), looks := false }, kinds := [], alts := [], laidByText := true, laidKinds := [.data], laidTests := true, laidLooks := .later }
def TollWindowUptoCardSaid : Prop := Claim7.holds Tryd.pinned (.plain (OpenSpec.upto tollWindowSpec)) tollWindowUptoCard

/-- THE SECOND FORM's CARD OF 'sackbutlaw04.TollSums'. -/
def tollSumsUptoCard : Claim7 := { stood := { row := tollSumsUptoRow, standIns := [], harness := (true, "c5bbb90095ae505c02cf0184b8911e18a7feef2b806241394b02cd0391b0a2e3"), looks := false }, kinds := [], alts := [], laidByText := true, laidKinds := [.data], laidTests := true, laidLooks := .later }
def TollSumsUptoCardSaid : Prop := Claim7.holds Tryd.pinned (.plain (OpenSpec.upto tollSumsSpec)) tollSumsUptoCard

/-- THE SECOND FORM's CARD OF 'sackbutlaw04.TollParts'. -/
def tollPartsUptoCard : Claim7 := { stood := { row := tollPartsUptoRow, standIns := [], harness := (true, "c5bbb90095ae505c02cf0184b8911e18a7feef2b806241394b02cd0391b0a2e3"), looks := false }, kinds := [], alts := [], laidByText := true, laidKinds := [.data], laidTests := true, laidLooks := .later }
def TollPartsUptoCardSaid : Prop := Claim7.holds Tryd.pinned (.plain (OpenSpec.upto tollPartsSpec)) tollPartsUptoCard
end Rows
end Go.Proofs.YtibmpphnchdheaaDoor
