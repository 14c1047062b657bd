/- VaultWith: what the claim's theorem reaches of this seat's texts, part 16, put together by this project's own program (bale.py); conditions: those of each theorem. -/
import Derived.Test.YtibmccacebhhkaaDoorVVaultWith5
import Derived.Test.YtibmccacebhhkaaDoorVVaultWith6
import Derived.Test.YtibmccacebhhkaaDoorVVaultWith8
import Derived.Test.YtibmccacebhhkaaDoorVVaultWith13
import Derived.Test.YtibmccacebhhkaaDoorVVaultWith14
import Derived.Shelf.Abstract
import Derived.OwnWalk
import Derived.LoopTactic
import Derived.WalkLawsBesides
namespace Go.Proofs.YtibmccacebhhkaaDoor.HV
open Go.RowKit Go.Proofs.YtibmccacebhhkaaDoorW.PrintWords Go.Proofs.YtibmccacebhhkaaDoorW.PrintLast Go.Proofs.YtibmccacebhhkaaDoorW.PrintMore
attribute [local go_sem] max2_int min2_int max_two min_two max_three min_three max_four min_four   -- for this text's walks alone
set_option linter.unusedVariables false
set_option linter.unusedSimpArgs false

/-! ### vault_open: function 28, by hand -/
structure AsideOp (p : Prop) : Prop where mk :: (out : p)
/-- What is kept while an entry is looked at. -/
structure OpSt (w : World) (p : Nat) (A : Option Addr) (n c : Nat) (s : Nat × Bool) (v : Value) (L : List S67) (W : World) : Prop where
  bel : Below w.heap.size w W
  cur : CuAt W p A n c s.1 s.2
  row : Kd.R k67 67 W w.heap.size (fun k => k ≠ p) v L
end Go.Proofs.YtibmccacebhhkaaDoor.HV

namespace Go.Proofs.YtibmccacebhhkaaDoor.HV
open Go.RowKit Go.Proofs.YtibmccacebhhkaaDoorW.PrintWords Go.Proofs.YtibmccacebhhkaaDoorW.PrintLast Go.Proofs.YtibmccacebhhkaaDoorW.PrintMore
attribute [local go_sem] max2_int min2_int max_two min_two max_three min_three max_four min_four   -- for this text's walks alone
set_option linter.unusedVariables false
set_option linter.unusedSimpArgs false

/-! ### vault_Names: function 10, by hand -/
structure AsideN1 (p : Prop) : Prop where mk :: (out : p)
/-- What the law's variables hold: so far all right, k told, of the document's entries L, no more than m asked for. -/
structure NmSt (W : World) (pk pn pw pm : Nat) (k m : Nat) (A : Option Addr) (c : Nat) (L : List S31) : Prop where
  ok : W.heap[pk]? = some (.cells #[.bool true] 4 (0, 0))
  n : W.heap[pn]? = some (.cells #[.int .i64 k] 3 (0, 0))
  want : W.heap[pw]? = some (.cells #[.slice A L.length c] 24 (0, 0))
  m : W.heap[pm]? = some (.cells #[.int .i64 m] 3 (0, 0))
  row : Kd.C k31 W A L.length L
structure AsideN2 (p : Prop) : Prop where mk :: (out : p)
end Go.Proofs.YtibmccacebhhkaaDoor.HV

