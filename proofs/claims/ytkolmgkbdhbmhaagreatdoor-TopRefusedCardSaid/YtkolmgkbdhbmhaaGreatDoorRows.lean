/-
  NARROWER THAN 'FOR EVERY INPUT', by the rows' own cells (each row's printed sentence says how): TopRefused: laid · TopShort: laid.
  DERIVED. THE GIVEN ROWS OF THIS SEAT. 2 by the template 'for every input the law returns true; each argument reads behind the call as it read before'; 0 by the template 'total and deterministic' (their statements: YtkolmgkbdhbmhaaGreatDoorTotals.lean).
  GIVEN WITH THE SEED: the statements are not yours to turn. If you find one false, say at which input.
  Laid BY PROGRAM, IN A SANDBOX (cutbox-rows.mjs): the forced cells as the released guide's own fill.sh prints them over the translation 58c52a35d6bdcb05… (all of the seat's roots in one cut). By AI agents, Wed Nov 11 2026. No macro, syntax, notation, axiom, sorry.
-/
import Derived.Test.YtkolmgkbdhbmhaaGreatDoorChecked
import GoSem.Claim
import GoSem.ClaimJoined
import GoSem.ClaimMapViews
import Derived.JoinedTies
import Derived.KernelRfl
namespace Go.Proofs.YtkolmgkbdhbmhaaGreatDoor
/- THE CELL 'sum', in the pinned program and in every row, IS THE sha256 OF THE DUMP (.gsa) THAT YtkolmgkbdhbmhaaGreatDoorProg.lean LOADS. Nothing in Lean hashes anything: it is a label: what it is worth is what the hold of that sum in a sandbox is worth. -/
noncomputable def Tryz.pinned : Pinned := { name := "ytkolmgkbdhbmhaagreatdoor", sum := "58c52a35d6bdcb05cb5dffee7166cfbbb5e4cb8f99532490fa5fba056b2c6735", checked := Tryz.checked }
namespace Rows
def none {H : Type} : Left H := { results := [], args := [] }

/- WHAT THE LISTED PACKAGE-LEVEL VARIABLES READ AS WHEN THE CALL BEGINS. Each datum BY PROGRAM (the guide's laid-datum.mjs) off the statement by which the dump's own 'gosem.cut.vars' lays the variable. In a bare row this is a premise. The card (YtkolmgkbdhbmhaaGreatDoorCards.lean) ties it to the program's text. -/
def laid_sackbut_toll_halves {H : Type} : DataW H := .agg [.lit (.int .u32 0), .lit (.int .u32 498536548), .lit (.int .u32 997073096), .lit (.int .u32 651767980), .lit (.int .u32 1994146192), .lit (.int .u32 1802195444), .lit (.int .u32 1303535960), .lit (.int .u32 1342533948), .lit (.int .u32 3988292384), .lit (.int .u32 4027552580), .lit (.int .u32 3604390888), .lit (.int .u32 3412177804), .lit (.int .u32 2607071920), .lit (.int .u32 2262029012), .lit (.int .u32 2685067896), .lit (.int .u32 3183342108)]

/-- 'sackbuttop.TopRefused': WHATEVER THE INPUT: true; the input reads as it did. -/
def topRefusedSpec : ChangeSpec := { name := "topRefused", fn := fun _ => fun
  | [d] => { results := [.lit (.bool true)], args := [d] }
  | _ => none }
def topRefusedRow : OpenClaim := { program := "ytkolmgkbdhbmhaagreatdoor", sum := "58c52a35d6bdcb05cb5dffee7166cfbbb5e4cb8f99532490fa5fba056b2c6735", func := "sackbut/sackbuttop.TopRefused", spec := "topRefused", unfollowed := true, recurses := true, named := ["sackbut/toll.halves"], apart := false, laid := [("sackbut/toll.halves", laid_sackbut_toll_halves)] }
def TopRefusedSaid : Prop := topRefusedRow.holds Tryz.pinned (OpenSpec.ofChange topRefusedSpec)

/-- ITS FALSE NEIGHBOUR: 'it returns false'. Refute it at one input. -/
def topRefusedWrong : ChangeSpec := { name := "topRefused", fn := fun _ => fun
  | [d] => { results := [.lit (.bool false)], args := [d] }
  | _ => none }
def TopRefusedWrongFalsely : Prop := topRefusedRow.holds Tryz.pinned (OpenSpec.ofChange topRefusedWrong)

/-- 'sackbuttop.TopShort': WHATEVER THE INPUT: true; the input reads as it did. -/
def topShortSpec : ChangeSpec := { name := "topShort", fn := fun _ => fun
  | [d] => { results := [.lit (.bool true)], args := [d] }
  | _ => none }
def topShortRow : OpenClaim := { program := "ytkolmgkbdhbmhaagreatdoor", sum := "58c52a35d6bdcb05cb5dffee7166cfbbb5e4cb8f99532490fa5fba056b2c6735", func := "sackbut/sackbuttop.TopShort", spec := "topShort", unfollowed := true, recurses := true, named := ["sackbut/toll.halves"], apart := false, laid := [("sackbut/toll.halves", laid_sackbut_toll_halves)] }
def TopShortSaid : Prop := topShortRow.holds Tryz.pinned (OpenSpec.ofChange topShortSpec)

/-- ITS FALSE NEIGHBOUR: 'it returns false'. Refute it at one input. -/
def topShortWrong : ChangeSpec := { name := "topShort", fn := fun _ => fun
  | [d] => { results := [.lit (.bool false)], args := [d] }
  | _ => none }
def TopShortWrongFalsely : Prop := topShortRow.holds Tryz.pinned (OpenSpec.ofChange topShortWrong)

/- THE SECOND FORM. 'bulk': how many values and letters a reading holds, each counted each time it is reached (what is shared counts as often as it is met; a slice's spare places count too). A statement '..UptoSaid' is the law's where the arguments, and the package variables that the reading takes, are together of bulk at most 1048576: NARROWER than '..Said'. Prove '..Said' where nothing that the law and all that it calls make is longer than what came in: it says more and counts as full. Else prove '..UptoSaid'. A law counts once. -/
mutual
def uptoBulk {H : Type} : DataW H → Nat
  | .lit (.string bytes) => bytes.length + 1
  | .lit _ => 1
  | .nil => 1
  | .ptr d => uptoBulk d + 1
  | .slice elems spare => uptoBulkAll elems + uptoBulkAll spare + 1
  | .agg parts => uptoBulkAll parts + 1
  | .iface _ d => uptoBulk d + 1
  | .map entries => uptoBulkEntries entries + 1
  | .held _ => 1
def uptoBulkAll {H : Type} : List (DataW H) → Nat
  | [] => 0
  | d :: r => uptoBulk d + uptoBulkAll r
def uptoBulkEntries {H : Type} : List (Lit × DataW H) → Nat
  | [] => 0
  | x :: r => uptoBulkEntry x + uptoBulkEntries r
def uptoBulkEntry {H : Type} : Lit × DataW H → Nat
  | (.string bytes, d) => bytes.length + uptoBulk d + 1
  | (_, d) => uptoBulk d + 1
 end
def uptoSmall : (H : Type) → List (DataW H) → Bool := fun _ ds => decide (uptoBulkAll ds ≤ 1048576)
def OpenSpec.upto (s : _root_.Go.ChangeSpec) : _root_.Go.OpenSpec := { _root_.Go.OpenSpec.ofChange s with cond := some uptoSmall }

/-- 'sackbuttop.TopRefused', WHERE WHAT IT READS IS OF BULK AT MOST 1048576: true; the input reads as it did. -/
def topRefusedUptoRow : OpenClaim := { program := "ytkolmgkbdhbmhaagreatdoor", sum := "58c52a35d6bdcb05cb5dffee7166cfbbb5e4cb8f99532490fa5fba056b2c6735", func := "sackbut/sackbuttop.TopRefused", spec := "topRefused", unfollowed := true, recurses := true, named := ["sackbut/toll.halves"], apart := false, laid := [("sackbut/toll.halves", laid_sackbut_toll_halves)], narrowed := true }
def TopRefusedUptoSaid : Prop := topRefusedUptoRow.holds Tryz.pinned (OpenSpec.upto topRefusedSpec)

/-- 'sackbuttop.TopShort', WHERE WHAT IT READS IS OF BULK AT MOST 1048576: true; the input reads as it did. -/
def topShortUptoRow : OpenClaim := { program := "ytkolmgkbdhbmhaagreatdoor", sum := "58c52a35d6bdcb05cb5dffee7166cfbbb5e4cb8f99532490fa5fba056b2c6735", func := "sackbut/sackbuttop.TopShort", spec := "topShort", unfollowed := true, recurses := true, named := ["sackbut/toll.halves"], apart := false, laid := [("sackbut/toll.halves", laid_sackbut_toll_halves)], narrowed := true }
def TopShortUptoSaid : Prop := topShortUptoRow.holds Tryz.pinned (OpenSpec.upto topShortSpec)

end Rows
end Go.Proofs.YtkolmgkbdhbmhaaGreatDoor
