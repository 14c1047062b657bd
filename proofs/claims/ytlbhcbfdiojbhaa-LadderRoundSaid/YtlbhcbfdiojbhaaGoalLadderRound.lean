/- LadderRound: its statement in plain numbers and lists, without Go and memory. -/
import Derived.Test.YtlbhcbfdiojbhaaHLx11
namespace Go.Proofs.Ytlbhcbfdiojbhaa.Pure
open Go Go.RowKit Go.Proofs.Ytlbhcbfdiojbhaa.HL Go.Proofs.YtlbhcbfdiojbhaaW.PrintWords Go.Proofs.YtlbhcbfdiojbhaaW.PrintLast
/-- LadderRound: the law in numbers and lists alone. -/
def PureGLadderRound : Prop := ∀ (l0 : List (Int)) (a1 : Int), l0.length ≤ 9223372036854775807 → (∀ x ∈ l0, (Lit.int .i64 x).wf = true) → (Lit.int .u8 a1).wf = true → ∃ k, sackbutlaw17_LadderRound.f k l0 a1 = some true
end Go.Proofs.Ytlbhcbfdiojbhaa.Pure
