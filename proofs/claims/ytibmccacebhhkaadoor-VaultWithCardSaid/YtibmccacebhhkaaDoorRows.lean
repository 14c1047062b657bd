/-
  NARROWER THAN 'FOR EVERY INPUT', by the rows' own cells (each row's printed sentence says how): VaultNames: laid · VaultPacks: laid · VaultUnpacks: laid · VaultFinds: laid · VaultWith: laid.
  DERIVED. THE GIVEN ROWS OF THIS SEAT. 5 by the template 'for every input the law returns true; each argument reads behind the call as it read before'; 0 by the template 'total and deterministic' (their statements: YtibmccacebhhkaaDoorTotals.lean).
  GIVEN WITH THE SEED: the statements are not yours to turn. If you find one false, say at which input.
  Laid BY PROGRAM, IN A SANDBOX (cutbox-rows.mjs): the forced cells as the released guide's own fill.sh prints them over the translation c567dd288b027caa… (all of the seat's roots in one cut). By AI agents, Wed Nov 11 2026. No macro, syntax, notation, axiom, sorry.
-/
import Derived.Test.YtibmccacebhhkaaDoorChecked
import GoSem.Claim
import GoSem.ClaimJoined
import GoSem.ClaimMapViews
import Derived.JoinedTies
import Derived.KernelRfl
namespace Go.Proofs.YtibmccacebhhkaaDoor
/- THE CELL 'sum', in the pinned program and in every row, IS THE sha256 OF THE DUMP (.gsa) THAT YtibmccacebhhkaaDoorProg.lean LOADS. Nothing in Lean hashes anything: it is a label: what it is worth is what the hold of that sum in a sandbox is worth. -/
noncomputable def Tryd.pinned : Pinned := { name := "ytibmccacebhhkaadoor", sum := "c567dd288b027caa0685753ebde22f0f6b0e4b1eb5e0050c6d2e16a8a2efec5e", checked := Tryd.checked }
namespace Rows
def none {H : Type} : Left H := { results := [], args := [] }

/- WHAT THE LISTED PACKAGE-LEVEL VARIABLES READ AS WHEN THE CALL BEGINS. Each datum BY PROGRAM (the guide's laid-datum.mjs) off the statement by which the dump's own 'gosem.cut.vars' lays the variable. In a bare row this is a premise. The card (YtibmccacebhhkaaDoorCards.lean) ties it to the program's text. -/
def laid_sackbut_toll_halves {H : Type} : DataW H := .agg [.lit (.int .u32 0), .lit (.int .u32 498536548), .lit (.int .u32 997073096), .lit (.int .u32 651767980), .lit (.int .u32 1994146192), .lit (.int .u32 1802195444), .lit (.int .u32 1303535960), .lit (.int .u32 1342533948), .lit (.int .u32 3988292384), .lit (.int .u32 4027552580), .lit (.int .u32 3604390888), .lit (.int .u32 3412177804), .lit (.int .u32 2607071920), .lit (.int .u32 2262029012), .lit (.int .u32 2685067896), .lit (.int .u32 3183342108)]

/-- 'sackbutlaw25.VaultNames': WHATEVER THE INPUT: true; the input reads as it did. -/
def vaultNamesSpec : ChangeSpec := { name := "vaultNames", fn := fun _ => fun
  | [d1, d2] => { results := [.lit (.bool true)], args := [d1, d2] }
  | _ => none }
def vaultNamesRow : OpenClaim := { program := "ytibmccacebhhkaadoor", sum := "c567dd288b027caa0685753ebde22f0f6b0e4b1eb5e0050c6d2e16a8a2efec5e", func := "sackbut/sackbutlaw25.VaultNames", spec := "vaultNames", unfollowed := true, recurses := true, named := ["sackbut/toll.halves"], apart := false, laid := [("sackbut/toll.halves", laid_sackbut_toll_halves)] }
def VaultNamesSaid : Prop := vaultNamesRow.holds Tryd.pinned (OpenSpec.ofChange vaultNamesSpec)

/-- ITS FALSE NEIGHBOUR: 'it returns false'. Refute it at one input. -/
def vaultNamesWrong : ChangeSpec := { name := "vaultNames", fn := fun _ => fun
  | [d1, d2] => { results := [.lit (.bool false)], args := [d1, d2] }
  | _ => none }
def VaultNamesWrongFalsely : Prop := vaultNamesRow.holds Tryd.pinned (OpenSpec.ofChange vaultNamesWrong)

/-- 'sackbutlaw25.VaultPacks': WHATEVER THE INPUT: true; the input reads as it did. -/
def vaultPacksSpec : ChangeSpec := { name := "vaultPacks", fn := fun _ => fun
  | [d] => { results := [.lit (.bool true)], args := [d] }
  | _ => none }
def vaultPacksRow : OpenClaim := { program := "ytibmccacebhhkaadoor", sum := "c567dd288b027caa0685753ebde22f0f6b0e4b1eb5e0050c6d2e16a8a2efec5e", func := "sackbut/sackbutlaw25.VaultPacks", spec := "vaultPacks", unfollowed := true, recurses := true, named := ["sackbut/toll.halves"], apart := false, laid := [("sackbut/toll.halves", laid_sackbut_toll_halves)] }
def VaultPacksSaid : Prop := vaultPacksRow.holds Tryd.pinned (OpenSpec.ofChange vaultPacksSpec)

/-- ITS FALSE NEIGHBOUR: 'it returns false'. Refute it at one input. -/
def vaultPacksWrong : ChangeSpec := { name := "vaultPacks", fn := fun _ => fun
  | [d] => { results := [.lit (.bool false)], args := [d] }
  | _ => none }
def VaultPacksWrongFalsely : Prop := vaultPacksRow.holds Tryd.pinned (OpenSpec.ofChange vaultPacksWrong)

/-- 'sackbutlaw25.VaultUnpacks': WHATEVER THE INPUT: true; the input reads as it did. -/
def vaultUnpacksSpec : ChangeSpec := { name := "vaultUnpacks", fn := fun _ => fun
  | [d] => { results := [.lit (.bool true)], args := [d] }
  | _ => none }
def vaultUnpacksRow : OpenClaim := { program := "ytibmccacebhhkaadoor", sum := "c567dd288b027caa0685753ebde22f0f6b0e4b1eb5e0050c6d2e16a8a2efec5e", func := "sackbut/sackbutlaw25.VaultUnpacks", spec := "vaultUnpacks", unfollowed := true, recurses := true, named := ["sackbut/toll.halves"], apart := false, laid := [("sackbut/toll.halves", laid_sackbut_toll_halves)] }
def VaultUnpacksSaid : Prop := vaultUnpacksRow.holds Tryd.pinned (OpenSpec.ofChange vaultUnpacksSpec)

/-- ITS FALSE NEIGHBOUR: 'it returns false'. Refute it at one input. -/
def vaultUnpacksWrong : ChangeSpec := { name := "vaultUnpacks", fn := fun _ => fun
  | [d] => { results := [.lit (.bool false)], args := [d] }
  | _ => none }
def VaultUnpacksWrongFalsely : Prop := vaultUnpacksRow.holds Tryd.pinned (OpenSpec.ofChange vaultUnpacksWrong)

/-- 'sackbutlaw25.VaultFinds': WHATEVER THE INPUT: true; the input reads as it did. -/
def vaultFindsSpec : ChangeSpec := { name := "vaultFinds", fn := fun _ => fun
  | [d1, d2] => { results := [.lit (.bool true)], args := [d1, d2] }
  | _ => none }
def vaultFindsRow : OpenClaim := { program := "ytibmccacebhhkaadoor", sum := "c567dd288b027caa0685753ebde22f0f6b0e4b1eb5e0050c6d2e16a8a2efec5e", func := "sackbut/sackbutlaw25.VaultFinds", spec := "vaultFinds", unfollowed := true, recurses := true, named := ["sackbut/toll.halves"], apart := false, laid := [("sackbut/toll.halves", laid_sackbut_toll_halves)] }
def VaultFindsSaid : Prop := vaultFindsRow.holds Tryd.pinned (OpenSpec.ofChange vaultFindsSpec)

/-- ITS FALSE NEIGHBOUR: 'it returns false'. Refute it at one input. -/
def vaultFindsWrong : ChangeSpec := { name := "vaultFinds", fn := fun _ => fun
  | [d1, d2] => { results := [.lit (.bool false)], args := [d1, d2] }
  | _ => none }
def VaultFindsWrongFalsely : Prop := vaultFindsRow.holds Tryd.pinned (OpenSpec.ofChange vaultFindsWrong)

/-- 'sackbutlaw25.VaultWith': WHATEVER THE INPUT: true; the input reads as it did. -/
def vaultWithSpec : ChangeSpec := { name := "vaultWith", fn := fun _ => fun
  | [d1, d2] => { results := [.lit (.bool true)], args := [d1, d2] }
  | _ => none }
def vaultWithRow : OpenClaim := { program := "ytibmccacebhhkaadoor", sum := "c567dd288b027caa0685753ebde22f0f6b0e4b1eb5e0050c6d2e16a8a2efec5e", func := "sackbut/sackbutlaw25.VaultWith", spec := "vaultWith", inPlace := ["internal/bytealg.abigen_runtime_cmpstring", "slices.overlaps[sackbut/vault.Item]"], unfollowed := true, recurses := true, named := ["sackbut/toll.halves"], apart := false, laid := [("sackbut/toll.halves", laid_sackbut_toll_halves)] }
def VaultWithSaid : Prop := vaultWithRow.holds Tryd.pinned (OpenSpec.ofChange vaultWithSpec)

/-- ITS FALSE NEIGHBOUR: 'it returns false'. Refute it at one input. -/
def vaultWithWrong : ChangeSpec := { name := "vaultWith", fn := fun _ => fun
  | [d1, d2] => { results := [.lit (.bool false)], args := [d1, d2] }
  | _ => none }
def VaultWithWrongFalsely : Prop := vaultWithRow.holds Tryd.pinned (OpenSpec.ofChange vaultWithWrong)

/- THE SECOND FORM. 'bulk': how many values and letters a reading holds, each counted each time it is reached (what is shared counts as often as it is met; a slice's spare places count too). A statement '..UptoSaid' is the law's where the arguments, and the package variables that the reading takes, are together of bulk at most 1048576: NARROWER than '..Said'. Prove '..Said' where nothing that the law and all that it calls make is longer than what came in: it says more and counts as full. Else prove '..UptoSaid'. A law counts once. -/
mutual
def uptoBulk {H : Type} : DataW H → Nat
  | .lit (.string bytes) => bytes.length + 1
  | .lit _ => 1
  | .nil => 1
  | .ptr d => uptoBulk d + 1
  | .slice elems spare => uptoBulkAll elems + uptoBulkAll spare + 1
  | .agg parts => uptoBulkAll parts + 1
  | .iface _ d => uptoBulk d + 1
  | .map entries => uptoBulkEntries entries + 1
  | .held _ => 1
def uptoBulkAll {H : Type} : List (DataW H) → Nat
  | [] => 0
  | d :: r => uptoBulk d + uptoBulkAll r
def uptoBulkEntries {H : Type} : List (Lit × DataW H) → Nat
  | [] => 0
  | x :: r => uptoBulkEntry x + uptoBulkEntries r
def uptoBulkEntry {H : Type} : Lit × DataW H → Nat
  | (.string bytes, d) => bytes.length + uptoBulk d + 1
  | (_, d) => uptoBulk d + 1
 end
def uptoSmall : (H : Type) → List (DataW H) → Bool := fun _ ds => decide (uptoBulkAll ds ≤ 1048576)
def OpenSpec.upto (s : _root_.Go.ChangeSpec) : _root_.Go.OpenSpec := { _root_.Go.OpenSpec.ofChange s with cond := some uptoSmall }

/-- 'sackbutlaw25.VaultNames', WHERE WHAT IT READS IS OF BULK AT MOST 1048576: true; the input reads as it did. -/
def vaultNamesUptoRow : OpenClaim := { program := "ytibmccacebhhkaadoor", sum := "c567dd288b027caa0685753ebde22f0f6b0e4b1eb5e0050c6d2e16a8a2efec5e", func := "sackbut/sackbutlaw25.VaultNames", spec := "vaultNames", unfollowed := true, recurses := true, named := ["sackbut/toll.halves"], apart := false, laid := [("sackbut/toll.halves", laid_sackbut_toll_halves)], narrowed := true }
def VaultNamesUptoSaid : Prop := vaultNamesUptoRow.holds Tryd.pinned (OpenSpec.upto vaultNamesSpec)

/-- 'sackbutlaw25.VaultPacks', WHERE WHAT IT READS IS OF BULK AT MOST 1048576: true; the input reads as it did. -/
def vaultPacksUptoRow : OpenClaim := { program := "ytibmccacebhhkaadoor", sum := "c567dd288b027caa0685753ebde22f0f6b0e4b1eb5e0050c6d2e16a8a2efec5e", func := "sackbut/sackbutlaw25.VaultPacks", spec := "vaultPacks", unfollowed := true, recurses := true, named := ["sackbut/toll.halves"], apart := false, laid := [("sackbut/toll.halves", laid_sackbut_toll_halves)], narrowed := true }
def VaultPacksUptoSaid : Prop := vaultPacksUptoRow.holds Tryd.pinned (OpenSpec.upto vaultPacksSpec)

/-- 'sackbutlaw25.VaultUnpacks', WHERE WHAT IT READS IS OF BULK AT MOST 1048576: true; the input reads as it did. -/
def vaultUnpacksUptoRow : OpenClaim := { program := "ytibmccacebhhkaadoor", sum := "c567dd288b027caa0685753ebde22f0f6b0e4b1eb5e0050c6d2e16a8a2efec5e", func := "sackbut/sackbutlaw25.VaultUnpacks", spec := "vaultUnpacks", unfollowed := true, recurses := true, named := ["sackbut/toll.halves"], apart := false, laid := [("sackbut/toll.halves", laid_sackbut_toll_halves)], narrowed := true }
def VaultUnpacksUptoSaid : Prop := vaultUnpacksUptoRow.holds Tryd.pinned (OpenSpec.upto vaultUnpacksSpec)

/-- 'sackbutlaw25.VaultFinds', WHERE WHAT IT READS IS OF BULK AT MOST 1048576: true; the input reads as it did. -/
def vaultFindsUptoRow : OpenClaim := { program := "ytibmccacebhhkaadoor", sum := "c567dd288b027caa0685753ebde22f0f6b0e4b1eb5e0050c6d2e16a8a2efec5e", func := "sackbut/sackbutlaw25.VaultFinds", spec := "vaultFinds", unfollowed := true, recurses := true, named := ["sackbut/toll.halves"], apart := false, laid := [("sackbut/toll.halves", laid_sackbut_toll_halves)], narrowed := true }
def VaultFindsUptoSaid : Prop := vaultFindsUptoRow.holds Tryd.pinned (OpenSpec.upto vaultFindsSpec)

/-- 'sackbutlaw25.VaultWith', WHERE WHAT IT READS IS OF BULK AT MOST 1048576: true; the input reads as it did. -/
def vaultWithUptoRow : OpenClaim := { program := "ytibmccacebhhkaadoor", sum := "c567dd288b027caa0685753ebde22f0f6b0e4b1eb5e0050c6d2e16a8a2efec5e", func := "sackbut/sackbutlaw25.VaultWith", spec := "vaultWith", inPlace := ["internal/bytealg.abigen_runtime_cmpstring", "slices.overlaps[sackbut/vault.Item]"], unfollowed := true, recurses := true, named := ["sackbut/toll.halves"], apart := false, laid := [("sackbut/toll.halves", laid_sackbut_toll_halves)], narrowed := true }
def VaultWithUptoSaid : Prop := vaultWithUptoRow.holds Tryd.pinned (OpenSpec.upto vaultWithSpec)

end Rows
end Go.Proofs.YtibmccacebhhkaaDoor
