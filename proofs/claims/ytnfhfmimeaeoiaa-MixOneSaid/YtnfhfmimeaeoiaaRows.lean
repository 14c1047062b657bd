/-
  No cell of these rows narrows 'for every input' (looked for: loops, veiled, ifaces, maps, wideKeys, modest, calm, conditions, laid).
  DERIVED. THE GIVEN ROWS OF THIS SEAT. 6 by the template 'for every input the law returns true; each argument reads behind the call as it read before'; 0 by the template 'total and deterministic' (their statements: YtnfhfmimeaeoiaaTotals.lean).
  GIVEN WITH THE SEED: the statements are not yours to turn. If you find one false, say at which input.
  Laid BY PROGRAM, IN A SANDBOX (cutbox-rows.mjs): the forced cells as the released guide's own fill.sh prints them over the translation 397c8ac275f2d011… (all of the seat's roots in one cut). By AI agents, Wed Nov 11 2026. No macro, syntax, notation, axiom, sorry.
-/
import Derived.Test.YtnfhfmimeaeoiaaChecked
import GoSem.Claim
import GoSem.ClaimJoined
import GoSem.ClaimMapViews
import Derived.JoinedTies
import Derived.KernelRfl
namespace Go.Proofs.Ytnfhfmimeaeoiaa
/- THE CELL 'sum', in the pinned program and in every row, IS THE sha256 OF THE DUMP (.gsa) THAT YtnfhfmimeaeoiaaProg.lean LOADS. Nothing in Lean hashes anything: it is a label: what it is worth is what the hold of that sum in a sandbox is worth. -/
noncomputable def Try.pinned : Pinned := { name := "ytnfhfmimeaeoiaa", sum := "397c8ac275f2d01111bdedb96a998e2259f8981aef43401a661c98384f532457", checked := Try.checked }
namespace Rows
def none {H : Type} : Left H := { results := [], args := [] }

/-- 'sackbutlaw22.MixLoud': WHATEVER THE INPUT: true; the input reads as it did. -/
def mixLoudSpec : ChangeSpec := { name := "mixLoud", fn := fun _ => fun
  | [d1, d2] => { results := [.lit (.bool true)], args := [d1, d2] }
  | _ => none }
def mixLoudRow : OpenClaim := { program := "ytnfhfmimeaeoiaa", sum := "397c8ac275f2d01111bdedb96a998e2259f8981aef43401a661c98384f532457", func := "sackbut/sackbutlaw22.MixLoud", spec := "mixLoud", unfollowed := true, recurses := true, apart := false }
def MixLoudSaid : Prop := mixLoudRow.holds Try.pinned (OpenSpec.ofChange mixLoudSpec)

/-- ITS FALSE NEIGHBOUR: 'it returns false'. Refute it at one input. -/
def mixLoudWrong : ChangeSpec := { name := "mixLoud", fn := fun _ => fun
  | [d1, d2] => { results := [.lit (.bool false)], args := [d1, d2] }
  | _ => none }
def MixLoudWrongFalsely : Prop := mixLoudRow.holds Try.pinned (OpenSpec.ofChange mixLoudWrong)

/-- 'sackbutlaw22.MixGains': WHATEVER THE INPUT: true; the input reads as it did. -/
def mixGainsSpec : ChangeSpec := { name := "mixGains", fn := fun _ => fun
  | [d1, d2, d3] => { results := [.lit (.bool true)], args := [d1, d2, d3] }
  | _ => none }
def mixGainsRow : OpenClaim := { program := "ytnfhfmimeaeoiaa", sum := "397c8ac275f2d01111bdedb96a998e2259f8981aef43401a661c98384f532457", func := "sackbut/sackbutlaw22.MixGains", spec := "mixGains", unfollowed := true, recurses := true, apart := false }
def MixGainsSaid : Prop := mixGainsRow.holds Try.pinned (OpenSpec.ofChange mixGainsSpec)

/-- ITS FALSE NEIGHBOUR: 'it returns false'. Refute it at one input. -/
def mixGainsWrong : ChangeSpec := { name := "mixGains", fn := fun _ => fun
  | [d1, d2, d3] => { results := [.lit (.bool false)], args := [d1, d2, d3] }
  | _ => none }
def MixGainsWrongFalsely : Prop := mixGainsRow.holds Try.pinned (OpenSpec.ofChange mixGainsWrong)

/-- 'sackbutlaw22.MixFades': WHATEVER THE INPUT: true; the input reads as it did. -/
def mixFadesSpec : ChangeSpec := { name := "mixFades", fn := fun _ => fun
  | [d1, d2, d3] => { results := [.lit (.bool true)], args := [d1, d2, d3] }
  | _ => none }
def mixFadesRow : OpenClaim := { program := "ytnfhfmimeaeoiaa", sum := "397c8ac275f2d01111bdedb96a998e2259f8981aef43401a661c98384f532457", func := "sackbut/sackbutlaw22.MixFades", spec := "mixFades", unfollowed := true, recurses := true, apart := false }
def MixFadesSaid : Prop := mixFadesRow.holds Try.pinned (OpenSpec.ofChange mixFadesSpec)

/-- ITS FALSE NEIGHBOUR: 'it returns false'. Refute it at one input. -/
def mixFadesWrong : ChangeSpec := { name := "mixFades", fn := fun _ => fun
  | [d1, d2, d3] => { results := [.lit (.bool false)], args := [d1, d2, d3] }
  | _ => none }
def MixFadesWrongFalsely : Prop := mixFadesRow.holds Try.pinned (OpenSpec.ofChange mixFadesWrong)

/-- 'sackbutlaw22.MixAdds': WHATEVER THE INPUT: true; the input reads as it did. -/
def mixAddsSpec : ChangeSpec := { name := "mixAdds", fn := fun _ => fun
  | [d1, d2, d3] => { results := [.lit (.bool true)], args := [d1, d2, d3] }
  | _ => none }
def mixAddsRow : OpenClaim := { program := "ytnfhfmimeaeoiaa", sum := "397c8ac275f2d01111bdedb96a998e2259f8981aef43401a661c98384f532457", func := "sackbut/sackbutlaw22.MixAdds", spec := "mixAdds", unfollowed := true, recurses := true, apart := false }
def MixAddsSaid : Prop := mixAddsRow.holds Try.pinned (OpenSpec.ofChange mixAddsSpec)

/-- ITS FALSE NEIGHBOUR: 'it returns false'. Refute it at one input. -/
def mixAddsWrong : ChangeSpec := { name := "mixAdds", fn := fun _ => fun
  | [d1, d2, d3] => { results := [.lit (.bool false)], args := [d1, d2, d3] }
  | _ => none }
def MixAddsWrongFalsely : Prop := mixAddsRow.holds Try.pinned (OpenSpec.ofChange mixAddsWrong)

/-- 'sackbutlaw22.MixOne': WHATEVER THE INPUT: true; the input reads as it did. -/
def mixOneSpec : ChangeSpec := { name := "mixOne", fn := fun _ => fun
  | [d1, d2] => { results := [.lit (.bool true)], args := [d1, d2] }
  | _ => none }
def mixOneRow : OpenClaim := { program := "ytnfhfmimeaeoiaa", sum := "397c8ac275f2d01111bdedb96a998e2259f8981aef43401a661c98384f532457", func := "sackbut/sackbutlaw22.MixOne", spec := "mixOne", unfollowed := true, recurses := true, apart := false }
def MixOneSaid : Prop := mixOneRow.holds Try.pinned (OpenSpec.ofChange mixOneSpec)

/-- ITS FALSE NEIGHBOUR: 'it returns false'. Refute it at one input. -/
def mixOneWrong : ChangeSpec := { name := "mixOne", fn := fun _ => fun
  | [d1, d2] => { results := [.lit (.bool false)], args := [d1, d2] }
  | _ => none }
def MixOneWrongFalsely : Prop := mixOneRow.holds Try.pinned (OpenSpec.ofChange mixOneWrong)

/-- 'sackbutlaw22.MixThins': WHATEVER THE INPUT: true; the input reads as it did. -/
def mixThinsSpec : ChangeSpec := { name := "mixThins", fn := fun _ => fun
  | [d1, d2] => { results := [.lit (.bool true)], args := [d1, d2] }
  | _ => none }
def mixThinsRow : OpenClaim := { program := "ytnfhfmimeaeoiaa", sum := "397c8ac275f2d01111bdedb96a998e2259f8981aef43401a661c98384f532457", func := "sackbut/sackbutlaw22.MixThins", spec := "mixThins", unfollowed := true, recurses := true, apart := false }
def MixThinsSaid : Prop := mixThinsRow.holds Try.pinned (OpenSpec.ofChange mixThinsSpec)

/-- ITS FALSE NEIGHBOUR: 'it returns false'. Refute it at one input. -/
def mixThinsWrong : ChangeSpec := { name := "mixThins", fn := fun _ => fun
  | [d1, d2] => { results := [.lit (.bool false)], args := [d1, d2] }
  | _ => none }
def MixThinsWrongFalsely : Prop := mixThinsRow.holds Try.pinned (OpenSpec.ofChange mixThinsWrong)

/- THE SECOND FORM. 'bulk': how many values and letters a reading holds, each counted each time it is reached (what is shared counts as often as it is met; a slice's spare places count too). A statement '..UptoSaid' is the law's where the arguments, and the package variables that the reading takes, are together of bulk at most 1048576: NARROWER than '..Said'. Prove '..Said' where nothing that the law and all that it calls make is longer than what came in: it says more and counts as full. Else prove '..UptoSaid'. A law counts once. -/
mutual
def uptoBulk {H : Type} : DataW H → Nat
  | .lit (.string bytes) => bytes.length + 1
  | .lit _ => 1
  | .nil => 1
  | .ptr d => uptoBulk d + 1
  | .slice elems spare => uptoBulkAll elems + uptoBulkAll spare + 1
  | .agg parts => uptoBulkAll parts + 1
  | .iface _ d => uptoBulk d + 1
  | .map entries => uptoBulkEntries entries + 1
  | .held _ => 1
def uptoBulkAll {H : Type} : List (DataW H) → Nat
  | [] => 0
  | d :: r => uptoBulk d + uptoBulkAll r
def uptoBulkEntries {H : Type} : List (Lit × DataW H) → Nat
  | [] => 0
  | x :: r => uptoBulkEntry x + uptoBulkEntries r
def uptoBulkEntry {H : Type} : Lit × DataW H → Nat
  | (.string bytes, d) => bytes.length + uptoBulk d + 1
  | (_, d) => uptoBulk d + 1
 end
def uptoSmall : (H : Type) → List (DataW H) → Bool := fun _ ds => decide (uptoBulkAll ds ≤ 1048576)
def OpenSpec.upto (s : _root_.Go.ChangeSpec) : _root_.Go.OpenSpec := { _root_.Go.OpenSpec.ofChange s with cond := some uptoSmall }

/-- 'sackbutlaw22.MixLoud', WHERE WHAT IT READS IS OF BULK AT MOST 1048576: true; the input reads as it did. -/
def mixLoudUptoRow : OpenClaim := { program := "ytnfhfmimeaeoiaa", sum := "397c8ac275f2d01111bdedb96a998e2259f8981aef43401a661c98384f532457", func := "sackbut/sackbutlaw22.MixLoud", spec := "mixLoud", unfollowed := true, recurses := true, apart := false, narrowed := true }
def MixLoudUptoSaid : Prop := mixLoudUptoRow.holds Try.pinned (OpenSpec.upto mixLoudSpec)

/-- 'sackbutlaw22.MixGains', WHERE WHAT IT READS IS OF BULK AT MOST 1048576: true; the input reads as it did. -/
def mixGainsUptoRow : OpenClaim := { program := "ytnfhfmimeaeoiaa", sum := "397c8ac275f2d01111bdedb96a998e2259f8981aef43401a661c98384f532457", func := "sackbut/sackbutlaw22.MixGains", spec := "mixGains", unfollowed := true, recurses := true, apart := false, narrowed := true }
def MixGainsUptoSaid : Prop := mixGainsUptoRow.holds Try.pinned (OpenSpec.upto mixGainsSpec)

/-- 'sackbutlaw22.MixFades', WHERE WHAT IT READS IS OF BULK AT MOST 1048576: true; the input reads as it did. -/
def mixFadesUptoRow : OpenClaim := { program := "ytnfhfmimeaeoiaa", sum := "397c8ac275f2d01111bdedb96a998e2259f8981aef43401a661c98384f532457", func := "sackbut/sackbutlaw22.MixFades", spec := "mixFades", unfollowed := true, recurses := true, apart := false, narrowed := true }
def MixFadesUptoSaid : Prop := mixFadesUptoRow.holds Try.pinned (OpenSpec.upto mixFadesSpec)

/-- 'sackbutlaw22.MixAdds', WHERE WHAT IT READS IS OF BULK AT MOST 1048576: true; the input reads as it did. -/
def mixAddsUptoRow : OpenClaim := { program := "ytnfhfmimeaeoiaa", sum := "397c8ac275f2d01111bdedb96a998e2259f8981aef43401a661c98384f532457", func := "sackbut/sackbutlaw22.MixAdds", spec := "mixAdds", unfollowed := true, recurses := true, apart := false, narrowed := true }
def MixAddsUptoSaid : Prop := mixAddsUptoRow.holds Try.pinned (OpenSpec.upto mixAddsSpec)

/-- 'sackbutlaw22.MixOne', WHERE WHAT IT READS IS OF BULK AT MOST 1048576: true; the input reads as it did. -/
def mixOneUptoRow : OpenClaim := { program := "ytnfhfmimeaeoiaa", sum := "397c8ac275f2d01111bdedb96a998e2259f8981aef43401a661c98384f532457", func := "sackbut/sackbutlaw22.MixOne", spec := "mixOne", unfollowed := true, recurses := true, apart := false, narrowed := true }
def MixOneUptoSaid : Prop := mixOneUptoRow.holds Try.pinned (OpenSpec.upto mixOneSpec)

/-- 'sackbutlaw22.MixThins', WHERE WHAT IT READS IS OF BULK AT MOST 1048576: true; the input reads as it did. -/
def mixThinsUptoRow : OpenClaim := { program := "ytnfhfmimeaeoiaa", sum := "397c8ac275f2d01111bdedb96a998e2259f8981aef43401a661c98384f532457", func := "sackbut/sackbutlaw22.MixThins", spec := "mixThins", unfollowed := true, recurses := true, apart := false, narrowed := true }
def MixThinsUptoSaid : Prop := mixThinsUptoRow.holds Try.pinned (OpenSpec.upto mixThinsSpec)

end Rows
end Go.Proofs.Ytnfhfmimeaeoiaa
