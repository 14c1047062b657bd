/- LadderSpans: its statement in plain numbers and lists, without Go and memory. -/
import Derived.Test.YtlbhcbfdiojbhaaHLx9
namespace Go.Proofs.Ytlbhcbfdiojbhaa.Pure
open Go Go.RowKit Go.Proofs.Ytlbhcbfdiojbhaa.HL Go.Proofs.YtlbhcbfdiojbhaaW.PrintWords Go.Proofs.YtlbhcbfdiojbhaaW.PrintLast
/-- LadderSpans: the law in numbers and lists alone. -/
def PureGLadderSpans : Prop := ∀ (l0 : List (Int)) (a1 : Int), l0.length ≤ 9223372036854775807 → (∀ x ∈ l0, (Lit.int .i64 x).wf = true) → (Lit.int .u8 a1).wf = true → sackbutlaw17_LadderSpans.f l0 a1 = some true
end Go.Proofs.Ytlbhcbfdiojbhaa.Pure
