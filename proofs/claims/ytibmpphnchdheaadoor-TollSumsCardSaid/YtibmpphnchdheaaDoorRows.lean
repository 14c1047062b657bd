/-
  NARROWER THAN 'FOR EVERY INPUT', by the rows' own cells (each row's printed sentence says how): TollWindow: laid · TollSums: laid · TollParts: laid.
  DERIVED. THE GIVEN ROWS OF THIS SEAT. 3 by the template 'for every input the law returns true; each argument reads behind the call as it read before'; 0 by the template 'total and deterministic' (their statements: YtibmpphnchdheaaDoorTotals.lean).
  GIVEN WITH THE SEED: the statements are not yours to turn. If you find one false, say at which input.
  Laid BY PROGRAM, IN A SANDBOX (cutbox-rows.mjs): the forced cells as the released guide's own fill.sh prints them over the translation 4b67d4d225103ca7… (all of the seat's roots in one cut). By AI agents, Wed Nov 11 2026. No macro, syntax, notation, axiom, sorry.
-/
import Derived.Test.YtibmpphnchdheaaDoorChecked
import GoSem.Claim
import GoSem.ClaimJoined
import GoSem.ClaimMapViews
import Derived.JoinedTies
import Derived.KernelRfl
namespace Go.Proofs.YtibmpphnchdheaaDoor
/- THE CELL 'sum', in the pinned program and in every row, IS THE sha256 OF THE DUMP (.gsa) THAT YtibmpphnchdheaaDoorProg.lean LOADS. Nothing in Lean hashes anything: it is a label: what it is worth is what the hold of that sum in a sandbox is worth. -/
noncomputable def Tryd.pinned : Pinned := { name := "ytibmpphnchdheaadoor", sum := "4b67d4d225103ca743e7b0d850b8f7b1881c467d5d9b848e39ca6bad167f99f0", checked := Tryd.checked }
namespace Rows
def none {H : Type} : Left H := { results := [], args := [] }

/- WHAT THE LISTED PACKAGE-LEVEL VARIABLES READ AS WHEN THE CALL BEGINS. Each datum BY PROGRAM (the guide's laid-datum.mjs) off the statement by which the dump's own 'gosem.cut.vars' lays the variable. In a bare row this is a premise. The card (YtibmpphnchdheaaDoorCards.lean) ties it to the program's text. -/
def laid_sackbut_toll_halves {H : Type} : DataW H := .agg [.lit (.int .u32 0), .lit (.int .u32 498536548), .lit (.int .u32 997073096), .lit (.int .u32 651767980), .lit (.int .u32 1994146192), .lit (.int .u32 1802195444), .lit (.int .u32 1303535960), .lit (.int .u32 1342533948), .lit (.int .u32 3988292384), .lit (.int .u32 4027552580), .lit (.int .u32 3604390888), .lit (.int .u32 3412177804), .lit (.int .u32 2607071920), .lit (.int .u32 2262029012), .lit (.int .u32 2685067896), .lit (.int .u32 3183342108)]

/-- 'sackbutlaw04.TollWindow': WHATEVER THE INPUT: true; the input reads as it did. -/
def tollWindowSpec : ChangeSpec := { name := "tollWindow", fn := fun _ => fun
  | [d1, d2, d3] => { results := [.lit (.bool true)], args := [d1, d2, d3] }
  | _ => none }
def tollWindowRow : OpenClaim := { program := "ytibmpphnchdheaadoor", sum := "4b67d4d225103ca743e7b0d850b8f7b1881c467d5d9b848e39ca6bad167f99f0", func := "sackbut/sackbutlaw04.TollWindow", spec := "tollWindow", named := ["sackbut/toll.halves"], apart := false, laid := [("sackbut/toll.halves", laid_sackbut_toll_halves)] }
def TollWindowSaid : Prop := tollWindowRow.holds Tryd.pinned (OpenSpec.ofChange tollWindowSpec)

/-- ITS FALSE NEIGHBOUR: 'it returns false'. Refute it at one input. -/
def tollWindowWrong : ChangeSpec := { name := "tollWindow", fn := fun _ => fun
  | [d1, d2, d3] => { results := [.lit (.bool false)], args := [d1, d2, d3] }
  | _ => none }
def TollWindowWrongFalsely : Prop := tollWindowRow.holds Tryd.pinned (OpenSpec.ofChange tollWindowWrong)

/-- 'sackbutlaw04.TollSums': WHATEVER THE INPUT: true; the input reads as it did. -/
def tollSumsSpec : ChangeSpec := { name := "tollSums", fn := fun _ => fun
  | [d1, d2] => { results := [.lit (.bool true)], args := [d1, d2] }
  | _ => none }
def tollSumsRow : OpenClaim := { program := "ytibmpphnchdheaadoor", sum := "4b67d4d225103ca743e7b0d850b8f7b1881c467d5d9b848e39ca6bad167f99f0", func := "sackbut/sackbutlaw04.TollSums", spec := "tollSums", named := ["sackbut/toll.halves"], apart := false, laid := [("sackbut/toll.halves", laid_sackbut_toll_halves)] }
def TollSumsSaid : Prop := tollSumsRow.holds Tryd.pinned (OpenSpec.ofChange tollSumsSpec)

/-- ITS FALSE NEIGHBOUR: 'it returns false'. Refute it at one input. -/
def tollSumsWrong : ChangeSpec := { name := "tollSums", fn := fun _ => fun
  | [d1, d2] => { results := [.lit (.bool false)], args := [d1, d2] }
  | _ => none }
def TollSumsWrongFalsely : Prop := tollSumsRow.holds Tryd.pinned (OpenSpec.ofChange tollSumsWrong)

/-- 'sackbutlaw04.TollParts': WHATEVER THE INPUT: true; the input reads as it did. -/
def tollPartsSpec : ChangeSpec := { name := "tollParts", fn := fun _ => fun
  | [d1, d2, d3] => { results := [.lit (.bool true)], args := [d1, d2, d3] }
  | _ => none }
def tollPartsRow : OpenClaim := { program := "ytibmpphnchdheaadoor", sum := "4b67d4d225103ca743e7b0d850b8f7b1881c467d5d9b848e39ca6bad167f99f0", func := "sackbut/sackbutlaw04.TollParts", spec := "tollParts", named := ["sackbut/toll.halves"], apart := false, laid := [("sackbut/toll.halves", laid_sackbut_toll_halves)] }
def TollPartsSaid : Prop := tollPartsRow.holds Tryd.pinned (OpenSpec.ofChange tollPartsSpec)

/-- ITS FALSE NEIGHBOUR: 'it returns false'. Refute it at one input. -/
def tollPartsWrong : ChangeSpec := { name := "tollParts", fn := fun _ => fun
  | [d1, d2, d3] => { results := [.lit (.bool false)], args := [d1, d2, d3] }
  | _ => none }
def TollPartsWrongFalsely : Prop := tollPartsRow.holds Tryd.pinned (OpenSpec.ofChange tollPartsWrong)

/- THE SECOND FORM. 'bulk': how many values and letters a reading holds, each counted each time it is reached (what is shared counts as often as it is met; a slice's spare places count too). A statement '..UptoSaid' is the law's where the arguments, and the package variables that the reading takes, are together of bulk at most 1048576: NARROWER than '..Said'. Prove '..Said' where nothing that the law and all that it calls make is longer than what came in: it says more and counts as full. Else prove '..UptoSaid'. A law counts once. -/
mutual
def uptoBulk {H : Type} : DataW H → Nat
  | .lit (.string bytes) => bytes.length + 1
  | .lit _ => 1
  | .nil => 1
  | .ptr d => uptoBulk d + 1
  | .slice elems spare => uptoBulkAll elems + uptoBulkAll spare + 1
  | .agg parts => uptoBulkAll parts + 1
  | .iface _ d => uptoBulk d + 1
  | .map entries => uptoBulkEntries entries + 1
  | .held _ => 1
def uptoBulkAll {H : Type} : List (DataW H) → Nat
  | [] => 0
  | d :: r => uptoBulk d + uptoBulkAll r
def uptoBulkEntries {H : Type} : List (Lit × DataW H) → Nat
  | [] => 0
  | x :: r => uptoBulkEntry x + uptoBulkEntries r
def uptoBulkEntry {H : Type} : Lit × DataW H → Nat
  | (.string bytes, d) => bytes.length + uptoBulk d + 1
  | (_, d) => uptoBulk d + 1
 end
def uptoSmall : (H : Type) → List (DataW H) → Bool := fun _ ds => decide (uptoBulkAll ds ≤ 1048576)
def OpenSpec.upto (s : _root_.Go.ChangeSpec) : _root_.Go.OpenSpec := { _root_.Go.OpenSpec.ofChange s with cond := some uptoSmall }

/-- 'sackbutlaw04.TollWindow', WHERE WHAT IT READS IS OF BULK AT MOST 1048576: true; the input reads as it did. -/
def tollWindowUptoRow : OpenClaim := { program := "ytibmpphnchdheaadoor", sum := "4b67d4d225103ca743e7b0d850b8f7b1881c467d5d9b848e39ca6bad167f99f0", func := "sackbut/sackbutlaw04.TollWindow", spec := "tollWindow", named := ["sackbut/toll.halves"], apart := false, laid := [("sackbut/toll.halves", laid_sackbut_toll_halves)], narrowed := true }
def TollWindowUptoSaid : Prop := tollWindowUptoRow.holds Tryd.pinned (OpenSpec.upto tollWindowSpec)

/-- 'sackbutlaw04.TollSums', WHERE WHAT IT READS IS OF BULK AT MOST 1048576: true; the input reads as it did. -/
def tollSumsUptoRow : OpenClaim := { program := "ytibmpphnchdheaadoor", sum := "4b67d4d225103ca743e7b0d850b8f7b1881c467d5d9b848e39ca6bad167f99f0", func := "sackbut/sackbutlaw04.TollSums", spec := "tollSums", named := ["sackbut/toll.halves"], apart := false, laid := [("sackbut/toll.halves", laid_sackbut_toll_halves)], narrowed := true }
def TollSumsUptoSaid : Prop := tollSumsUptoRow.holds Tryd.pinned (OpenSpec.upto tollSumsSpec)

/-- 'sackbutlaw04.TollParts', WHERE WHAT IT READS IS OF BULK AT MOST 1048576: true; the input reads as it did. -/
def tollPartsUptoRow : OpenClaim := { program := "ytibmpphnchdheaadoor", sum := "4b67d4d225103ca743e7b0d850b8f7b1881c467d5d9b848e39ca6bad167f99f0", func := "sackbut/sackbutlaw04.TollParts", spec := "tollParts", named := ["sackbut/toll.halves"], apart := false, laid := [("sackbut/toll.halves", laid_sackbut_toll_halves)], narrowed := true }
def TollPartsUptoSaid : Prop := tollPartsUptoRow.holds Tryd.pinned (OpenSpec.upto tollPartsSpec)

end Rows
end Go.Proofs.YtibmpphnchdheaaDoor
