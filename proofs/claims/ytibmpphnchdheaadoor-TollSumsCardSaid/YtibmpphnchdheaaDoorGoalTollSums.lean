/- TollSums: its statement in plain numbers and lists, without Go and memory. -/
import Derived.Test.YtibmpphnchdheaaDoorHTx8
namespace Go.Proofs.YtibmpphnchdheaaDoor.Pure
open Go Go.RowKit Go.Proofs.YtibmpphnchdheaaDoor.HT Go.Proofs.YtibmpphnchdheaaDoorW.PrintWords Go.Proofs.YtibmpphnchdheaaDoorW.PrintLast
/-- TollSums: the law in numbers and lists alone. -/
def PureGTollSums : Prop := ∀ (l0 : List (Int)) (a1 : Int), l0.length ≤ 9223372036854775807 → (∀ x ∈ l0, (Lit.int .u8 x).wf = true) → (Lit.int .u16 a1).wf = true → sackbutlaw04_TollSums.f l0 a1 = some true
end Go.Proofs.YtibmpphnchdheaaDoor.Pure
