/- VaultWith: what the claim's theorem reaches of this seat's texts, part 13, put together by this project's own program (bale.py); conditions: those of each theorem. -/
import Derived.Test.YtibmccacebhhkaaDoorVVaultWith5
import Derived.Shelf.Abstract
import Derived.OwnWalk
namespace Go.Proofs.YtibmccacebhhkaaDoor.HV
open Go.RowKit Go.Proofs.YtibmccacebhhkaaDoorW.PrintWords Go.Proofs.YtibmccacebhhkaaDoorW.PrintLast Go.Proofs.YtibmccacebhhkaaDoorW.PrintMore
attribute [local go_sem] max2_int min2_int max_two min_two max_three min_three max_four min_four   -- for this text's walks alone
set_option linter.unusedVariables false
set_option linter.unusedSimpArgs false

end Go.Proofs.YtibmccacebhhkaaDoor.HV

namespace Go.Proofs.YtibmccacebhhkaaDoor.HV
open Go.RowKit Go.Proofs.YtibmccacebhhkaaDoorW.PrintWords Go.Proofs.YtibmccacebhhkaaDoorW.PrintLast Go.Proofs.YtibmccacebhhkaaDoorW.PrintMore
attribute [local go_sem] max2_int min2_int max_two min_two max_three min_three max_four min_four   -- for this text's walks alone
set_option linter.unusedVariables false
set_option linter.unusedSimpArgs false

/-! ### vault_cursor_take: function 48, by hand -/
structure AsideCu (p : Prop) : Prop where mk :: (out : p)
/-- A cursor over a row that lies elsewhere: where it stands, and whether more was asked for than there is. -/
def CuAt (w : World) (p : Nat) (A : Option Addr) (n c a : Nat) (s : Bool) : Prop := w.heap[p]? = some (.cells #[.slice A n c, .int .i64 a, .bool s] 90 (0, 0))
end Go.Proofs.YtibmccacebhhkaaDoor.HV

