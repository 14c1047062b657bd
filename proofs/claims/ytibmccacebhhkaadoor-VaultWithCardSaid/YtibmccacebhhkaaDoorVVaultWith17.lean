/- VaultWith: what the claim's theorem reaches of this seat's texts, part 17, put together by this project's own program (bale.py); conditions: those of each theorem. -/
import Derived.Laws.BitsLemmas
import Derived.RowKit
namespace Go.Proofs.YtibmccacebhhkaaDoor.TollMath
open Go Go.RowKit

end Go.Proofs.YtibmccacebhhkaaDoor.TollMath

