/- VaultWith: what the claim's theorem reaches of this seat's texts, part 18, put together by this project's own program (bale.py); conditions: those of each theorem. -/
import Derived.Test.YtibmccacebhhkaaDoorVVaultWith5
import Derived.Test.YtibmccacebhhkaaDoorVVaultWith8
import Derived.Test.YtibmccacebhhkaaDoorVVaultWith17
namespace Go.Proofs.YtibmccacebhhkaaDoor.TollSpec
open Go Go.RowKit Go.Proofs.YtibmccacebhhkaaDoor.TollMath Go.Proofs.YtibmccacebhhkaaDoor.HV Go.Proofs.YtibmccacebhhkaaDoorW.PrintWords Go.Proofs.YtibmccacebhhkaaDoorW.PrintLast

end Go.Proofs.YtibmccacebhhkaaDoor.TollSpec

namespace Go.Proofs.YtibmccacebhhkaaDoor.TollSpec
open Go Go.RowKit Go.Proofs.YtibmccacebhhkaaDoor.TollMath Go.Proofs.YtibmccacebhhkaaDoor.HV Go.Proofs.YtibmccacebhhkaaDoorW.PrintWords Go.Proofs.YtibmccacebhhkaaDoorW.PrintLast

end Go.Proofs.YtibmccacebhhkaaDoor.TollSpec

