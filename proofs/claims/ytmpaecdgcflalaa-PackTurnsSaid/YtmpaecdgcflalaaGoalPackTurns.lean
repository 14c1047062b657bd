/- PackTurns: its statement in plain numbers and lists, without Go and memory. -/
import Derived.Test.YtmpaecdgcflalaaHKx13
namespace Go.Proofs.Ytmpaecdgcflalaa.Pure
open Go Go.RowKit Go.Proofs.Ytmpaecdgcflalaa.HK Go.Proofs.YtmpaecdgcflalaaW.PrintWords Go.Proofs.YtmpaecdgcflalaaW.PrintLast
/-- PackTurns: the law in numbers and lists alone. -/
def PureGPackTurns : Prop := ∀ (a0 : Int) (l1 : List (List (Int))), (Lit.int .u8 a0).wf = true → l1.length ≤ 9223372036854775807 → (∀ x ∈ l1, (∀ y ∈ x, (Lit.int .i64 y).wf = true)) → ∃ k, sackbutlaw05_PackTurns.f k a0 l1 = some true
end Go.Proofs.Ytmpaecdgcflalaa.Pure
