/- PackUnpacks: its statement in plain numbers and lists, without Go and memory. -/
import Derived.Test.YtmpaecdgcflalaaHKx21
namespace Go.Proofs.Ytmpaecdgcflalaa.Pure
open Go Go.RowKit Go.Proofs.Ytmpaecdgcflalaa.HK Go.Proofs.YtmpaecdgcflalaaW.PrintWords Go.Proofs.YtmpaecdgcflalaaW.PrintLast
/-- PackUnpacks: the law in numbers and lists alone. -/
def PureGPackUnpacks : Prop := ∀ (a0_0 : Int) (a0_1 : Bool) (a1 : Int) (l2 : List (Int)), (Lit.int .i64 a0_0).wf = true → (Lit.int .i64 a1).wf = true → l2.length ≤ 9223372036854775807 → (∀ x ∈ l2, (Lit.int .u8 x).wf = true) → ∃ k, sackbutlaw05_PackUnpacks.f k a0_0 a0_1 a1 l2 = some true
end Go.Proofs.Ytmpaecdgcflalaa.Pure
