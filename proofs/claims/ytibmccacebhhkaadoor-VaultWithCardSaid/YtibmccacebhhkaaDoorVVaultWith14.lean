/- VaultWith: what the claim's theorem reaches of this seat's texts, part 14, put together by this project's own program (bale.py); conditions: those of each theorem. -/
import Derived.Test.YtibmccacebhhkaaDoorVVaultWith5
import Derived.Test.YtibmccacebhhkaaDoorVVaultWith13
import Derived.Shelf.Abstract
import Derived.OwnWalk
import Derived.LoopTactic
namespace Go.Proofs.YtibmccacebhhkaaDoor.HV
open Go.RowKit Go.Proofs.YtibmccacebhhkaaDoorW.PrintWords Go.Proofs.YtibmccacebhhkaaDoorW.PrintLast Go.Proofs.YtibmccacebhhkaaDoorW.PrintMore
attribute [local go_sem] max2_int min2_int max_two min_two max_three min_three max_four min_four   -- for this text's walks alone
set_option linter.unusedVariables false
set_option linter.unusedSimpArgs false

/-! ### vault_cursor_number: function 49, by hand -/
structure AsideNu (p : Prop) : Prop where mk :: (out : p)
end Go.Proofs.YtibmccacebhhkaaDoor.HV

namespace Go.Proofs.YtibmccacebhhkaaDoor.HV
open Go.RowKit Go.Proofs.YtibmccacebhhkaaDoorW.PrintWords Go.Proofs.YtibmccacebhhkaaDoorW.PrintLast Go.Proofs.YtibmccacebhhkaaDoorW.PrintMore
attribute [local go_sem] max2_int min2_int max_two min_two max_three min_three max_four min_four   -- for this text's walks alone
set_option linter.unusedVariables false
set_option linter.unusedSimpArgs false

/-! ### vault_cursor_entry: function 50, by hand -/
structure AsideEn (p : Prop) : Prop where mk :: (out : p)
/-- Where the walk of an entry stands: the cursor, the result's block, what lay before. -/
structure EnSt (w0 w : World) (p : Nat) (A : Option Addr) (n c : Nat) (s : Nat × Bool) (W : World) : Prop where
  cur : CuAt W p A n c s.1 s.2
  bel : Below w0.heap.size w W
  blk : W.heap[w.heap.size]? = some (.cells #[.string ⟨#[]⟩, .int .i64 0, .int .i64 0] 67 (0, 0))
  old : ∀ g, g < w.heap.size → g ≠ p → W.heap[g]? = w.heap[g]?
  ne : w.heap.size ≠ p
end Go.Proofs.YtibmccacebhhkaaDoor.HV

