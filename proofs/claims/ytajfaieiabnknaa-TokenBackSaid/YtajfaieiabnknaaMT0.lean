/- The functions of the given program told as Lean functions, each with its contract proved; no condition. -/
import Derived.Test.YtajfaieiabnknaaProg
import Derived.Below
import Derived.Deep.Draws
import Derived.Deep.AppendLies
import Derived.Maps.AppendAt
import Derived.OwnWalk
import Derived.Laws.BytesArg
import Derived.Laws.MakeOwn
import Derived.Laws.OwnMore
import Derived.Deep.OwnRows
import Derived.Tactics
import Derived.Lib.ConvBytes
import Derived.Laws.Slices
import Derived.WalkKit
import Derived.KernelRfl
import Derived.RowKit3
import Derived.Deep.LoopGhost
import Derived.Deep.QuietTactic
import Derived.BigQuiet
import Derived.WideLaws
import Derived.Deep.DeepCutAuto
import Derived.Deep.CutBlock
import Derived.Deep.RegionHeld3
import Derived.Laws.Rows
import Derived.Lib.AppendStr
import Derived.ArgAppend
import Derived.Laws.IdiomCopy
import Derived.OrdersHeld
import Derived.Laws.BitsLemmas
import Derived.RowKit
import Derived.Test.YtajfaieiabnknaaTokKnown
import Derived.Test.YtajfaieiabnknaaWWords
import Derived.Test.YtajfaieiabnknaaWLast
import Derived.Test.YtajfaieiabnknaaWTab
import Derived.Test.YtajfaieiabnknaaWFour
import Derived.Test.YtajfaieiabnknaaWQPut
import Derived.Test.YtajfaieiabnknaaWApart
import Derived.Test.YtajfaieiabnknaaWArr
import Derived.Test.YtajfaieiabnknaaWZeros
import Derived.Test.YtajfaieiabnknaaWFoot
import Derived.Test.YtajfaieiabnknaaWKept
import Derived.Test.YtajfaieiabnknaaWShare
import Derived.Test.YtajfaieiabnknaaWN
import Derived.Test.YtajfaieiabnknaaWFootNe
import Derived.Test.YtajfaieiabnknaaWAt
import Derived.Test.YtajfaieiabnknaaWEqStruct
import Derived.Test.YtajfaieiabnknaaWRepsOne
import Derived.Test.YtajfaieiabnknaaWInv
import Derived.Test.YtajfaieiabnknaaWInvWords
import Derived.Test.YtajfaieiabnknaaWGuard
import Derived.Test.YtajfaieiabnknaaWNEv
import Derived.Test.YtajfaieiabnknaaWMore
namespace Go.Proofs.Ytajfaieiabnknaa.MT
open Go.RowKit Go.Proofs.YtajfaieiabnknaaW.PrintWords Go.Proofs.YtajfaieiabnknaaW.PrintLast Go.Proofs.YtajfaieiabnknaaW.PrintMore
attribute [local go_sem] max2_int min2_int max_two min_two max_three min_three max_four min_four   -- for this text's walks alone
set_option linter.unusedVariables false
set_option linter.unusedSimpArgs false



def errW : Option Int → Value
  | none => .nilIface
  | some c => .iface 0 (.int .i64 c)
theorem errW_none : errW none = .nilIface := rfl
theorem errW_some (c : Int) : errW (some c) = .iface 0 (.int .i64 c) := rfl

theorem info3 : (Try.prog.info? 3).map (fun i => (i.zero, i.size, i.bytes)) = some (some (.int .i64 0), 1, 8) := by kernel_rfl
theorem info5 : (Try.prog.info? 5).map (fun i => (i.zero, i.size, i.bytes)) = some (some (.int .u8 0), 1, 1) := by kernel_rfl
-- the values' own types

end Go.Proofs.Ytajfaieiabnknaa.MT
