/- LadderSpans: its walk says it all; here only that the row's sizes are within its bounds. By this project's prover (an AI agent). -/
import Derived.Test.YtlbhcbfdiojbhaaGoalLadderSpans
namespace Go.Proofs.Ytlbhcbfdiojbhaa.Pure
open Go Go.RowKit Go.Proofs.Ytlbhcbfdiojbhaa.HL Go.Proofs.YtlbhcbfdiojbhaaW.PrintWords Go.Proofs.YtlbhcbfdiojbhaaW.PrintLast
theorem LadderSpans : PureGLadderSpans := by
  intro l0 a1 hl _ ha
  have h : 0 ≤ a1 ∧ a1 < 256 := by
    simp [Lit.wf, IntKind.min, IntKind.max, IntKind.bits, IntKind.signed] at ha
    omega
  unfold sackbutlaw17_LadderSpans.f
  rw [if_pos ⟨hl, h.1, h.2⟩]
end Go.Proofs.Ytlbhcbfdiojbhaa.Pure
