/- MixOne: its statement in plain numbers and lists, without Go and memory. -/
import Derived.Test.YtnfhfmimeaeoiaaHMx17
namespace Go.Proofs.Ytnfhfmimeaeoiaa.Pure
open Go Go.RowKit Go.Proofs.Ytnfhfmimeaeoiaa.HM Go.Proofs.YtnfhfmimeaeoiaaW.PrintWords Go.Proofs.YtnfhfmimeaeoiaaW.PrintLast
/-- MixOne: the law in numbers and lists alone. -/
def PureGMixOne : Prop := ∀ (l0 : List (Int)) (a1 : Int), l0.length ≤ 9223372036854775807 → (∀ x ∈ l0, (Lit.int .i64 x).wf = true) → (Lit.int .u8 a1).wf = true → ∃ k, sackbutlaw22_MixOne.f k l0 a1 = some true
end Go.Proofs.Ytnfhfmimeaeoiaa.Pure
