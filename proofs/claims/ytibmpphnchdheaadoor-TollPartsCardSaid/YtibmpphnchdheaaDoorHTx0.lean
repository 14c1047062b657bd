/- What the Go functions come to, as plain Lean functions, and that their calls do just that: written by this project's own program (hp.sh); conditions: those of each theorem. -/
import Derived.Test.YtibmpphnchdheaaDoorProg
import Derived.Below
import Derived.Deep.Draws
import Derived.Deep.AppendLies
import Derived.Maps.AppendAt
import Derived.OwnWalk
import Derived.Laws.BytesArg
import Derived.Laws.MakeOwn
import Derived.Laws.OwnMore
import Derived.Deep.OwnRows
import Derived.Tactics
import Derived.Lib.ConvBytes
import Derived.Laws.Slices
import Derived.WalkKit
import Derived.KernelRfl
import Derived.RowKit3
import Derived.Deep.LoopGhost
import Derived.Deep.QuietTactic
import Derived.BigQuiet
import Derived.WideLaws
import Derived.Deep.DeepCutAuto
import Derived.Deep.CutBlock
import Derived.Deep.RegionHeld3
import Derived.Laws.Rows
import Derived.Lib.AppendStr
import Derived.ArgAppend
import Derived.Laws.IdiomCopy
import Derived.OrdersHeld
import Derived.Laws.BitsLemmas
import Derived.RowKit
import Derived.Test.YtibmpphnchdheaaDoorWWords
import Derived.Test.YtibmpphnchdheaaDoorWLast
import Derived.Test.YtibmpphnchdheaaDoorWTab
import Derived.Test.YtibmpphnchdheaaDoorWFour
import Derived.Test.YtibmpphnchdheaaDoorWQPut
import Derived.Test.YtibmpphnchdheaaDoorWApart
import Derived.Test.YtibmpphnchdheaaDoorWArr
import Derived.Test.YtibmpphnchdheaaDoorWZeros
import Derived.Test.YtibmpphnchdheaaDoorWFoot
import Derived.Test.YtibmpphnchdheaaDoorWKept
import Derived.Test.YtibmpphnchdheaaDoorWShare
import Derived.Test.YtibmpphnchdheaaDoorWN
import Derived.Test.YtibmpphnchdheaaDoorWFootNe
import Derived.Test.YtibmpphnchdheaaDoorWAt
import Derived.Test.YtibmpphnchdheaaDoorWEqStruct
import Derived.Test.YtibmpphnchdheaaDoorWRepsOne
import Derived.Test.YtibmpphnchdheaaDoorWInv
import Derived.Test.YtibmpphnchdheaaDoorWInvWords
import Derived.Test.YtibmpphnchdheaaDoorWGuard
import Derived.Test.YtibmpphnchdheaaDoorWNEv
import Derived.Test.YtibmpphnchdheaaDoorWMore
namespace Go.Proofs.YtibmpphnchdheaaDoor.HT
open Go.RowKit Go.Proofs.YtibmpphnchdheaaDoorW.PrintWords Go.Proofs.YtibmpphnchdheaaDoorW.PrintLast Go.Proofs.YtibmpphnchdheaaDoorW.PrintMore
attribute [local go_sem] max2_int min2_int max_two min_two max_three min_three max_four min_four   -- for this text's walks alone
set_option linter.unusedVariables false
set_option linter.unusedSimpArgs false



def errW : Option Int → Value
  | none => .nilIface
  | some c => .iface 0 (.int .i64 c)
theorem errW_none : errW none = .nilIface := rfl
theorem errW_some (c : Int) : errW (some c) = .iface 0 (.int .i64 c) := rfl

theorem info5 : (Tryd.prog.info? 5).map (fun i => (i.zero, i.size, i.bytes)) = some (some (.int .u8 0), 1, 1) := by kernel_rfl
-- the values' own types

end Go.Proofs.YtibmpphnchdheaaDoor.HT
