/- PackForms: its statement in plain numbers and lists, without Go and memory. -/
import Derived.Test.YtmpaecdgcflalaaHKx9
namespace Go.Proofs.Ytmpaecdgcflalaa.Pure
open Go Go.RowKit Go.Proofs.Ytmpaecdgcflalaa.HK Go.Proofs.YtmpaecdgcflalaaW.PrintWords Go.Proofs.YtmpaecdgcflalaaW.PrintLast
/-- PackForms: the law in numbers and lists alone. -/
def PureGPackForms : Prop := ∀ (a0_0 : Int) (a0_1 : Bool) (a1 : Int), (Lit.int .i64 a0_0).wf = true → (Lit.int .i64 a1).wf = true → ∃ k, sackbutlaw05_PackForms.f k a0_0 a0_1 a1 = some true
end Go.Proofs.Ytmpaecdgcflalaa.Pure
