/-
  No cell of these rows narrows 'for every input' (looked for: loops, veiled, ifaces, maps, wideKeys, modest, calm, conditions, laid).
  DERIVED. THE GIVEN ROWS OF THIS SEAT. 5 by the template 'for every input the law returns true; each argument reads behind the call as it read before'; 0 by the template 'total and deterministic' (their statements: YtlbhcbfdiojbhaaTotals.lean).
  GIVEN WITH THE SEED: the statements are not yours to turn. If you find one false, say at which input.
  Laid BY PROGRAM, IN A SANDBOX (cutbox-rows.mjs): the forced cells as the released guide's own fill.sh prints them over the translation ebed1508d2d88f2c… (all of the seat's roots in one cut). By AI agents, Wed Nov 11 2026. No macro, syntax, notation, axiom, sorry.
-/
import Derived.Test.YtlbhcbfdiojbhaaChecked
import GoSem.Claim
import GoSem.ClaimJoined
import GoSem.ClaimMapViews
import Derived.JoinedTies
import Derived.KernelRfl
namespace Go.Proofs.Ytlbhcbfdiojbhaa
/- THE CELL 'sum', in the pinned program and in every row, IS THE sha256 OF THE DUMP (.gsa) THAT YtlbhcbfdiojbhaaProg.lean LOADS. Nothing in Lean hashes anything: it is a label: what it is worth is what the hold of that sum in a sandbox is worth. -/
noncomputable def Try.pinned : Pinned := { name := "ytlbhcbfdiojbhaa", sum := "ebed1508d2d88f2c59caa560d0d5c831ab099eec925fe76c9f46975d3f3a0e57", checked := Try.checked }
namespace Rows
def none {H : Type} : Left H := { results := [], args := [] }

/-- 'sackbutlaw17.LadderSpans': WHATEVER THE INPUT: true; the input reads as it did. -/
def ladderSpansSpec : ChangeSpec := { name := "ladderSpans", fn := fun _ => fun
  | [d1, d2] => { results := [.lit (.bool true)], args := [d1, d2] }
  | _ => none }
def ladderSpansRow : OpenClaim := { program := "ytlbhcbfdiojbhaa", sum := "ebed1508d2d88f2c59caa560d0d5c831ab099eec925fe76c9f46975d3f3a0e57", func := "sackbut/sackbutlaw17.LadderSpans", spec := "ladderSpans", unfollowed := true, recurses := true, apart := false }
def LadderSpansSaid : Prop := ladderSpansRow.holds Try.pinned (OpenSpec.ofChange ladderSpansSpec)

/-- ITS FALSE NEIGHBOUR: 'it returns false'. Refute it at one input. -/
def ladderSpansWrong : ChangeSpec := { name := "ladderSpans", fn := fun _ => fun
  | [d1, d2] => { results := [.lit (.bool false)], args := [d1, d2] }
  | _ => none }
def LadderSpansWrongFalsely : Prop := ladderSpansRow.holds Try.pinned (OpenSpec.ofChange ladderSpansWrong)

/-- 'sackbutlaw17.LadderFinds': WHATEVER THE INPUT: true; the input reads as it did. -/
def ladderFindsSpec : ChangeSpec := { name := "ladderFinds", fn := fun _ => fun
  | [d1, d2, d3] => { results := [.lit (.bool true)], args := [d1, d2, d3] }
  | _ => none }
def ladderFindsRow : OpenClaim := { program := "ytlbhcbfdiojbhaa", sum := "ebed1508d2d88f2c59caa560d0d5c831ab099eec925fe76c9f46975d3f3a0e57", func := "sackbut/sackbutlaw17.LadderFinds", spec := "ladderFinds", unfollowed := true, recurses := true, apart := false }
def LadderFindsSaid : Prop := ladderFindsRow.holds Try.pinned (OpenSpec.ofChange ladderFindsSpec)

/-- ITS FALSE NEIGHBOUR: 'it returns false'. Refute it at one input. -/
def ladderFindsWrong : ChangeSpec := { name := "ladderFinds", fn := fun _ => fun
  | [d1, d2, d3] => { results := [.lit (.bool false)], args := [d1, d2, d3] }
  | _ => none }
def LadderFindsWrongFalsely : Prop := ladderFindsRow.holds Try.pinned (OpenSpec.ofChange ladderFindsWrong)

/-- 'sackbutlaw17.LadderRound': WHATEVER THE INPUT: true; the input reads as it did. -/
def ladderRoundSpec : ChangeSpec := { name := "ladderRound", fn := fun _ => fun
  | [d1, d2] => { results := [.lit (.bool true)], args := [d1, d2] }
  | _ => none }
def ladderRoundRow : OpenClaim := { program := "ytlbhcbfdiojbhaa", sum := "ebed1508d2d88f2c59caa560d0d5c831ab099eec925fe76c9f46975d3f3a0e57", func := "sackbut/sackbutlaw17.LadderRound", spec := "ladderRound", unfollowed := true, recurses := true, apart := false }
def LadderRoundSaid : Prop := ladderRoundRow.holds Try.pinned (OpenSpec.ofChange ladderRoundSpec)

/-- ITS FALSE NEIGHBOUR: 'it returns false'. Refute it at one input. -/
def ladderRoundWrong : ChangeSpec := { name := "ladderRound", fn := fun _ => fun
  | [d1, d2] => { results := [.lit (.bool false)], args := [d1, d2] }
  | _ => none }
def LadderRoundWrongFalsely : Prop := ladderRoundRow.holds Try.pinned (OpenSpec.ofChange ladderRoundWrong)

/-- 'sackbutlaw17.LadderBytes': WHATEVER THE INPUT: true; the input reads as it did. -/
def ladderBytesSpec : ChangeSpec := { name := "ladderBytes", fn := fun _ => fun
  | [d1, d2] => { results := [.lit (.bool true)], args := [d1, d2] }
  | _ => none }
def ladderBytesRow : OpenClaim := { program := "ytlbhcbfdiojbhaa", sum := "ebed1508d2d88f2c59caa560d0d5c831ab099eec925fe76c9f46975d3f3a0e57", func := "sackbut/sackbutlaw17.LadderBytes", spec := "ladderBytes", unfollowed := true, recurses := true, apart := false }
def LadderBytesSaid : Prop := ladderBytesRow.holds Try.pinned (OpenSpec.ofChange ladderBytesSpec)

/-- ITS FALSE NEIGHBOUR: 'it returns false'. Refute it at one input. -/
def ladderBytesWrong : ChangeSpec := { name := "ladderBytes", fn := fun _ => fun
  | [d1, d2] => { results := [.lit (.bool false)], args := [d1, d2] }
  | _ => none }
def LadderBytesWrongFalsely : Prop := ladderBytesRow.holds Try.pinned (OpenSpec.ofChange ladderBytesWrong)

/-- 'sackbutlaw17.LadderReads': WHATEVER THE INPUT: true; the input reads as it did. -/
def ladderReadsSpec : ChangeSpec := { name := "ladderReads", fn := fun _ => fun
  | [d1, d2] => { results := [.lit (.bool true)], args := [d1, d2] }
  | _ => none }
def ladderReadsRow : OpenClaim := { program := "ytlbhcbfdiojbhaa", sum := "ebed1508d2d88f2c59caa560d0d5c831ab099eec925fe76c9f46975d3f3a0e57", func := "sackbut/sackbutlaw17.LadderReads", spec := "ladderReads", unfollowed := true, recurses := true, apart := false }
def LadderReadsSaid : Prop := ladderReadsRow.holds Try.pinned (OpenSpec.ofChange ladderReadsSpec)

/-- ITS FALSE NEIGHBOUR: 'it returns false'. Refute it at one input. -/
def ladderReadsWrong : ChangeSpec := { name := "ladderReads", fn := fun _ => fun
  | [d1, d2] => { results := [.lit (.bool false)], args := [d1, d2] }
  | _ => none }
def LadderReadsWrongFalsely : Prop := ladderReadsRow.holds Try.pinned (OpenSpec.ofChange ladderReadsWrong)

/- THE SECOND FORM. 'bulk': how many values and letters a reading holds, each counted each time it is reached (what is shared counts as often as it is met; a slice's spare places count too). A statement '..UptoSaid' is the law's where the arguments, and the package variables that the reading takes, are together of bulk at most 1048576: NARROWER than '..Said'. Prove '..Said' where nothing that the law and all that it calls make is longer than what came in: it says more and counts as full. Else prove '..UptoSaid'. A law counts once. -/
mutual
def uptoBulk {H : Type} : DataW H → Nat
  | .lit (.string bytes) => bytes.length + 1
  | .lit _ => 1
  | .nil => 1
  | .ptr d => uptoBulk d + 1
  | .slice elems spare => uptoBulkAll elems + uptoBulkAll spare + 1
  | .agg parts => uptoBulkAll parts + 1
  | .iface _ d => uptoBulk d + 1
  | .map entries => uptoBulkEntries entries + 1
  | .held _ => 1
def uptoBulkAll {H : Type} : List (DataW H) → Nat
  | [] => 0
  | d :: r => uptoBulk d + uptoBulkAll r
def uptoBulkEntries {H : Type} : List (Lit × DataW H) → Nat
  | [] => 0
  | x :: r => uptoBulkEntry x + uptoBulkEntries r
def uptoBulkEntry {H : Type} : Lit × DataW H → Nat
  | (.string bytes, d) => bytes.length + uptoBulk d + 1
  | (_, d) => uptoBulk d + 1
 end
def uptoSmall : (H : Type) → List (DataW H) → Bool := fun _ ds => decide (uptoBulkAll ds ≤ 1048576)
def OpenSpec.upto (s : _root_.Go.ChangeSpec) : _root_.Go.OpenSpec := { _root_.Go.OpenSpec.ofChange s with cond := some uptoSmall }

/-- 'sackbutlaw17.LadderSpans', WHERE WHAT IT READS IS OF BULK AT MOST 1048576: true; the input reads as it did. -/
def ladderSpansUptoRow : OpenClaim := { program := "ytlbhcbfdiojbhaa", sum := "ebed1508d2d88f2c59caa560d0d5c831ab099eec925fe76c9f46975d3f3a0e57", func := "sackbut/sackbutlaw17.LadderSpans", spec := "ladderSpans", unfollowed := true, recurses := true, apart := false, narrowed := true }
def LadderSpansUptoSaid : Prop := ladderSpansUptoRow.holds Try.pinned (OpenSpec.upto ladderSpansSpec)

/-- 'sackbutlaw17.LadderFinds', WHERE WHAT IT READS IS OF BULK AT MOST 1048576: true; the input reads as it did. -/
def ladderFindsUptoRow : OpenClaim := { program := "ytlbhcbfdiojbhaa", sum := "ebed1508d2d88f2c59caa560d0d5c831ab099eec925fe76c9f46975d3f3a0e57", func := "sackbut/sackbutlaw17.LadderFinds", spec := "ladderFinds", unfollowed := true, recurses := true, apart := false, narrowed := true }
def LadderFindsUptoSaid : Prop := ladderFindsUptoRow.holds Try.pinned (OpenSpec.upto ladderFindsSpec)

/-- 'sackbutlaw17.LadderRound', WHERE WHAT IT READS IS OF BULK AT MOST 1048576: true; the input reads as it did. -/
def ladderRoundUptoRow : OpenClaim := { program := "ytlbhcbfdiojbhaa", sum := "ebed1508d2d88f2c59caa560d0d5c831ab099eec925fe76c9f46975d3f3a0e57", func := "sackbut/sackbutlaw17.LadderRound", spec := "ladderRound", unfollowed := true, recurses := true, apart := false, narrowed := true }
def LadderRoundUptoSaid : Prop := ladderRoundUptoRow.holds Try.pinned (OpenSpec.upto ladderRoundSpec)

/-- 'sackbutlaw17.LadderBytes', WHERE WHAT IT READS IS OF BULK AT MOST 1048576: true; the input reads as it did. -/
def ladderBytesUptoRow : OpenClaim := { program := "ytlbhcbfdiojbhaa", sum := "ebed1508d2d88f2c59caa560d0d5c831ab099eec925fe76c9f46975d3f3a0e57", func := "sackbut/sackbutlaw17.LadderBytes", spec := "ladderBytes", unfollowed := true, recurses := true, apart := false, narrowed := true }
def LadderBytesUptoSaid : Prop := ladderBytesUptoRow.holds Try.pinned (OpenSpec.upto ladderBytesSpec)

/-- 'sackbutlaw17.LadderReads', WHERE WHAT IT READS IS OF BULK AT MOST 1048576: true; the input reads as it did. -/
def ladderReadsUptoRow : OpenClaim := { program := "ytlbhcbfdiojbhaa", sum := "ebed1508d2d88f2c59caa560d0d5c831ab099eec925fe76c9f46975d3f3a0e57", func := "sackbut/sackbutlaw17.LadderReads", spec := "ladderReads", unfollowed := true, recurses := true, apart := false, narrowed := true }
def LadderReadsUptoSaid : Prop := ladderReadsUptoRow.holds Try.pinned (OpenSpec.upto ladderReadsSpec)

end Rows
end Go.Proofs.Ytlbhcbfdiojbhaa
