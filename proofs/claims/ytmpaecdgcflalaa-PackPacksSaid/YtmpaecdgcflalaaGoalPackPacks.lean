/- PackPacks: its statement in plain numbers and lists, without Go and memory. -/
import Derived.Test.YtmpaecdgcflalaaHKx20
namespace Go.Proofs.Ytmpaecdgcflalaa.Pure
open Go Go.RowKit Go.Proofs.Ytmpaecdgcflalaa.HK Go.Proofs.YtmpaecdgcflalaaW.PrintWords Go.Proofs.YtmpaecdgcflalaaW.PrintLast
/-- PackPacks: the law in numbers and lists alone. -/
def PureGPackPacks : Prop := ∀ (a0_0 : Int) (a0_1 : Bool) (l1 : List (List (Int))), (Lit.int .i64 a0_0).wf = true → l1.length ≤ 9223372036854775807 → (∀ x ∈ l1, (∀ y ∈ x, (Lit.int .i64 y).wf = true)) → ∃ k, sackbutlaw05_PackPacks.f k a0_0 a0_1 l1 = some true
end Go.Proofs.Ytmpaecdgcflalaa.Pure
