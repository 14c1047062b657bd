/- MixGains in plain numbers and lists. By this project's prover (an AI agent). -/
import Derived.Test.YtnfhfmimeaeoiaaMixSpec
import Derived.Test.YtnfhfmimeaeoiaaGoalMixGains
namespace Go.Proofs.Ytnfhfmimeaeoiaa.Pure
open Go Go.RowKit Go.Proofs.Ytnfhfmimeaeoiaa.HM Go.Proofs.Ytnfhfmimeaeoiaa.MixSpec Go.Proofs.YtnfhfmimeaeoiaaW.PrintWords Go.Proofs.YtnfhfmimeaeoiaaW.PrintLast
theorem gains_len (l : List Int) (g b : Int) : (gainA l g b).1.length ≤ l.length := by
  unfold gainA gains
  repeat' split
  all_goals simp
theorem MixGains_j0 (l : List Int) (g b : Int) (x : Bool) (hx : x = false → l.length ≤ 100) : sackbutlaw22_MixGains.j0 100000 l g b x = some true := by
  simp only [sackbutlaw22_MixGains.j0]
  by_cases h : x = true
  · rw [if_pos h, awake_ok _ (by omega), Option.bind_some]
  · have hl := hx (by simpa using h)
    rw [if_neg h]
    simp only [Option.bind_some, List.nil_append, List.length_nil]
    rw [if_pos (by omega), gain_spec l g b _ (by omega), Option.bind_some, ref_fade_spec l g g b _ (by omega), Option.bind_some, fade_spec l g g b _ (by omega), Option.bind_some, fadeA_same, if_pos rfl, if_pos rfl]
    have hg := gains_len l g b
    rw [same_self _ (by omega) _ (by omega), Option.bind_some, if_pos rfl, Option.bind_some, if_pos rfl, same_self l (by omega) _ (by omega), Option.bind_some]
theorem MixGains : PureGMixGains := by
  intro l g b hl _ _ _
  refine ⟨100000, ?_⟩
  unfold sackbutlaw22_MixGains.f
  rw [awake_ok _ (by omega), Option.bind_some, if_pos rfl]
  exact MixGains_j0 l g b _ (fun h => by have := of_decide_eq_false h; omega)
end Go.Proofs.Ytnfhfmimeaeoiaa.Pure
