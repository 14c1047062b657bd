/- MixAdds: its statement in plain numbers and lists, without Go and memory. -/
import Derived.Test.YtnfhfmimeaeoiaaHMx16
namespace Go.Proofs.Ytnfhfmimeaeoiaa.Pure
open Go Go.RowKit Go.Proofs.Ytnfhfmimeaeoiaa.HM Go.Proofs.YtnfhfmimeaeoiaaW.PrintWords Go.Proofs.YtnfhfmimeaeoiaaW.PrintLast
/-- MixAdds: the law in numbers and lists alone. -/
def PureGMixAdds : Prop := ∀ (l0 : List (List (Int))) (a1 : Int) (a2 : Int), l0.length ≤ 9223372036854775807 → (∀ x ∈ l0, (∀ y ∈ x, (Lit.int .i64 y).wf = true)) → (Lit.int .i64 a1).wf = true → (Lit.int .u8 a2).wf = true → ∃ k, sackbutlaw22_MixAdds.f k l0 a1 a2 = some true
end Go.Proofs.Ytnfhfmimeaeoiaa.Pure
