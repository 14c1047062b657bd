/- VaultWith: what the claim's theorem reaches of this seat's texts, part 15, put together by this project's own program (bale.py); conditions: those of each theorem. -/
import Derived.Test.YtibmccacebhhkaaDoorVVaultWith5
import Derived.Test.YtibmccacebhhkaaDoorVVaultWith6
import Derived.Test.YtibmccacebhhkaaDoorVVaultWith13
import Derived.Test.YtibmccacebhhkaaDoorVVaultWith14
import Derived.Shelf.Abstract
import Derived.OwnWalk
import Derived.LoopTactic
import Derived.WalkLawsBesides
import Derived.Lib.SlBytesConst
namespace Go.Proofs.YtibmccacebhhkaaDoor.HV
open Go.RowKit Go.Proofs.YtibmccacebhhkaaDoorW.PrintWords Go.Proofs.YtibmccacebhhkaaDoorW.PrintLast Go.Proofs.YtibmccacebhhkaaDoorW.PrintMore
attribute [local go_sem] max2_int min2_int max_two min_two max_three min_three max_four min_four   -- for this text's walks alone
set_option linter.unusedVariables false
set_option linter.unusedSimpArgs false

/-! ### sackbutref25_Open: function 9, by hand -/
structure AsideRo (p : Prop) : Prop where mk :: (out : p)
/-- What is kept all along. -/
structure RoSt (w : World) (v : Value) (L : List S31) (W : World) : Prop where
  bel : Below w.heap.size w W
  row : Kd.R k31 31 W w.heap.size (fun _ => True) v L
end Go.Proofs.YtibmccacebhhkaaDoor.HV

