/- MixFades: its statement in plain numbers and lists, without Go and memory. -/
import Derived.Test.YtnfhfmimeaeoiaaHMx13
namespace Go.Proofs.Ytnfhfmimeaeoiaa.Pure
open Go Go.RowKit Go.Proofs.Ytnfhfmimeaeoiaa.HM Go.Proofs.YtnfhfmimeaeoiaaW.PrintWords Go.Proofs.YtnfhfmimeaeoiaaW.PrintLast
/-- MixFades: the law in numbers and lists alone. -/
def PureGMixFades : Prop := ∀ (l0 : List (Int)) (a1_0 : Int) (a1_1 : Int) (a2 : Int), l0.length ≤ 9223372036854775807 → (∀ x ∈ l0, (Lit.int .i64 x).wf = true) → (Lit.int .i64 a1_0).wf = true → (Lit.int .i64 a1_1).wf = true → (Lit.int .i64 a2).wf = true → ∃ k, sackbutlaw22_MixFades.f k l0 a1_0 a1_1 a2 = some true
end Go.Proofs.Ytnfhfmimeaeoiaa.Pure
