/- VaultWith: what the claim's theorem reaches of this seat's texts, part 20, put together by this project's own program (bale.py); conditions: those of each theorem. -/
import Derived.Test.YtibmccacebhhkaaDoorVVaultWith15
import Derived.Test.YtibmccacebhhkaaDoorVVaultWith16
namespace Go.Proofs.YtibmccacebhhkaaDoor.VaultOpen
set_option linter.unusedVariables false
open Go Go.RowKit Go.Proofs.YtibmccacebhhkaaDoor.HV Go.Proofs.YtibmccacebhhkaaDoorW.PrintWords Go.Proofs.YtibmccacebhhkaaDoorW.PrintLast

end Go.Proofs.YtibmccacebhhkaaDoor.VaultOpen

