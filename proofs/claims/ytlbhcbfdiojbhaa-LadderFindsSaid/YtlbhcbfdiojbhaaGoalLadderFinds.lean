/- LadderFinds: its statement in plain numbers and lists, without Go and memory. -/
import Derived.Test.YtlbhcbfdiojbhaaHLx10
namespace Go.Proofs.Ytlbhcbfdiojbhaa.Pure
open Go Go.RowKit Go.Proofs.Ytlbhcbfdiojbhaa.HL Go.Proofs.YtlbhcbfdiojbhaaW.PrintWords Go.Proofs.YtlbhcbfdiojbhaaW.PrintLast
/-- LadderFinds: the law in numbers and lists alone. -/
def PureGLadderFinds : Prop := ∀ (l0 : List (Int)) (a1 : Int) (a2 : Int), l0.length ≤ 9223372036854775807 → (∀ x ∈ l0, (Lit.int .i64 x).wf = true) → (Lit.int .i64 a1).wf = true → (Lit.int .i64 a2).wf = true → ∃ k, sackbutlaw17_LadderFinds.f k l0 a1 a2 = some true
end Go.Proofs.Ytlbhcbfdiojbhaa.Pure
