/- MixFades in plain numbers and lists. By this project's prover (an AI agent). -/
import Derived.Test.YtnfhfmimeaeoiaaMixSpec
import Derived.Test.YtnfhfmimeaeoiaaGoalMixFades
namespace Go.Proofs.Ytnfhfmimeaeoiaa.Pure
open Go Go.RowKit Go.Proofs.Ytnfhfmimeaeoiaa.HM Go.Proofs.Ytnfhfmimeaeoiaa.MixSpec Go.Proofs.YtnfhfmimeaeoiaaW.PrintWords Go.Proofs.YtnfhfmimeaeoiaaW.PrintLast
theorem fades_length (l : List Int) (f t b : Int) : ∀ d j, (fades l f t b j d).length = d
  | 0, _ => rfl
  | d + 1, j => by rw [fades, List.length_cons, fades_length l f t b d (j + 1)]
theorem fadeA_len (l : List Int) (f t b : Int) : (fadeA l f t b).1.length ≤ l.length := by
  unfold fadeA
  repeat' split
  all_goals simp [fades_length]
theorem MixFades_j0 (l : List Int) (f t b : Int) (x : Bool) (hx : x = false → l.length ≤ 100) : sackbutlaw22_MixFades.j0 100000 l b x f t = some true := by
  simp only [sackbutlaw22_MixFades.j0]
  by_cases h : x = true
  · rw [if_pos h, awake_ok _ (by omega), Option.bind_some]
  · have hl := hx (by simpa using h)
    rw [if_neg h]
    simp only [Option.bind_some, List.nil_append, List.length_nil]
    rw [if_pos (by omega), fade_spec l f t b _ (by omega), Option.bind_some, ref_fade_spec l f t b _ (by omega), Option.bind_some, if_pos rfl]
    have hg := fadeA_len l f t b
    rw [same_self _ (by omega) _ (by omega), Option.bind_some, if_pos rfl, same_self l (by omega) _ (by omega), Option.bind_some]
theorem MixFades : PureGMixFades := by
  intro l f t b hl _ _ _ _
  refine ⟨100000, ?_⟩
  unfold sackbutlaw22_MixFades.f
  rw [awake_ok _ (by omega), Option.bind_some, if_pos rfl]
  exact MixFades_j0 l f t b _ (fun h => by have := of_decide_eq_false h; omega)
end Go.Proofs.Ytnfhfmimeaeoiaa.Pure
