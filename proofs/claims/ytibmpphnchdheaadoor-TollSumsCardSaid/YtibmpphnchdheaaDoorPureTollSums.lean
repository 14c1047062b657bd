/- TollSums: its walk says it all; here only that the row's numbers are within its bounds. By this project's prover (an AI agent). -/
import Derived.Test.YtibmpphnchdheaaDoorGoalTollSums
namespace Go.Proofs.YtibmpphnchdheaaDoor.Pure
open Go Go.RowKit Go.Proofs.YtibmpphnchdheaaDoor.HT Go.Proofs.YtibmpphnchdheaaDoorW.PrintWords Go.Proofs.YtibmpphnchdheaaDoorW.PrintLast
theorem TollSums : PureGTollSums := by
  intro l0 a1 _ hl ha
  have hb : ∀ x ∈ l0, 0 ≤ x ∧ x < 256 := by
    intro x hx
    have h := hl x hx
    simp [Lit.wf, IntKind.min, IntKind.max, IntKind.bits, IntKind.signed] at h
    omega
  have h : 0 ≤ a1 ∧ a1 < 65536 := by
    simp [Lit.wf, IntKind.min, IntKind.max, IntKind.bits, IntKind.signed] at ha
    omega
  unfold sackbutlaw04_TollSums.f
  rw [if_pos ⟨hb, h.1, h.2⟩]
end Go.Proofs.YtibmpphnchdheaaDoor.Pure
