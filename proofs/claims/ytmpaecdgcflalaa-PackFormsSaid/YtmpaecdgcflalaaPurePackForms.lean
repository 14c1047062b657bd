/- PackForms in plain numbers: which forms are good and which numbers are samples. By this project's prover (an AI agent). -/
import Derived.Test.YtmpaecdgcflalaaGoalPackForms
namespace Go.Proofs.Ytmpaecdgcflalaa.Pure
open Go Go.RowKit Go.Proofs.Ytmpaecdgcflalaa.HK Go.Proofs.YtmpaecdgcflalaaW.PrintWords Go.Proofs.YtmpaecdgcflalaaW.PrintLast
theorem awake_ok : sackbutlaw05_awake.f 60 = some true := by decide +kernel
theorem power7 : sackbutref01_Power.f 60 (wrap64 (8 - 1)) = some 128 := by decide +kernel
theorem power15 : sackbutref01_Power.f 60 (wrap64 (16 - 1)) = some 32768 := by decide +kernel
theorem power23 : sackbutref01_Power.f 60 (wrap64 (24 - 1)) = some 8388608 := by decide +kernel
theorem PackForms : PureGPackForms := by
  intro a0 b a1 _ _; refine ⟨60, ?_⟩
  simp only [sackbutlaw05_PackForms.f, awake_ok, Option.bind_some, if_true]
  unfold sackbutref05_Good.f pack_Form_Good.f
  by_cases h8 : a0 = 8
  · subst h8
    simp only [if_true, Option.bind_some, beq_self_eq_true, pack_Form_Has.f, sackbutref05_Has.f, power7]
    rw [if_pos (by decide +kernel), show shl .i64 (-1) (wrap64 (8 - 1)) = -128 by decide +kernel, show shl .i64 1 (wrap64 (8 - 1)) = 128 by decide +kernel, show wrap64 (-128) = -128 by decide +kernel]
    by_cases h : a1 ≥ -128 <;> simp [h]
  · by_cases h16 : a0 = 16
    · subst h16
      simp only [show ¬ ((16 : Int) = 8) by decide, if_true, if_false, Option.bind_some, beq_self_eq_true, pack_Form_Has.f, sackbutref05_Has.f, power15]
      rw [if_pos (by decide +kernel), show shl .i64 (-1) (wrap64 (16 - 1)) = -32768 by decide +kernel, show shl .i64 1 (wrap64 (16 - 1)) = 32768 by decide +kernel, show wrap64 (-32768) = -32768 by decide +kernel]
      by_cases h : a1 ≥ -32768 <;> simp [h]
    · by_cases h24 : a0 = 24
      · subst h24
        simp only [show ¬ ((24 : Int) = 8) by decide, show ¬ ((24 : Int) = 16) by decide, if_true, if_false, Option.bind_some, beq_self_eq_true, pack_Form_Has.f, sackbutref05_Has.f, power23]
        rw [if_pos (by decide +kernel), show shl .i64 (-1) (wrap64 (24 - 1)) = -8388608 by decide +kernel, show shl .i64 1 (wrap64 (24 - 1)) = 8388608 by decide +kernel, show wrap64 (-8388608) = -8388608 by decide +kernel]
        by_cases h : a1 ≥ -8388608 <;> simp [h]
      · simp [h8, h16, h24]
end Go.Proofs.Ytmpaecdgcflalaa.Pure
