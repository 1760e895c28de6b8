-- PRINTED BY print.sh 35421559b90ae4d0a3588c463048766b98c2df88dd9212a6774a882060cdf62d: not written by this session
import Derived.Test.YtloidjfcelbpmaaDoorProg
import Derived.Below
import Derived.Deep.Draws
import Derived.Deep.AppendLies
import Derived.Maps.AppendAt
import Derived.OwnWalk
import Derived.Laws.BytesArg
import Derived.Laws.MakeOwn
import Derived.Laws.OwnMore
import Derived.Deep.OwnRows
import Derived.Tactics
import Derived.Lib.ConvBytes
import Derived.Laws.Slices
import Derived.WalkKit
import Derived.KernelRfl
import Derived.RowKit3
import Derived.Deep.LoopGhost
import Derived.Deep.QuietTactic
import Derived.BigQuiet
import Derived.WideLaws
import Derived.Deep.DeepCutAuto
import Derived.Deep.CutBlock
import Derived.Deep.RegionHeld3
import Derived.Laws.Rows
import Derived.Lib.AppendStr
import Derived.ArgAppend
import Derived.Laws.IdiomCopy
import Derived.OrdersHeld
import Derived.Laws.BitsLemmas
import Derived.RowKit
import Derived.Test.YtloidjfcelbpmaaDoorWWords
import Derived.Test.YtloidjfcelbpmaaDoorWLast
import Derived.Test.YtloidjfcelbpmaaDoorWTab
import Derived.Test.YtloidjfcelbpmaaDoorWFour
import Derived.Test.YtloidjfcelbpmaaDoorWQPut
import Derived.Test.YtloidjfcelbpmaaDoorWApart
import Derived.Test.YtloidjfcelbpmaaDoorWArr
import Derived.Test.YtloidjfcelbpmaaDoorWZeros
import Derived.Test.YtloidjfcelbpmaaDoorWFoot
import Derived.Test.YtloidjfcelbpmaaDoorWKept
import Derived.Test.YtloidjfcelbpmaaDoorWShare
import Derived.Test.YtloidjfcelbpmaaDoorWN
import Derived.Test.YtloidjfcelbpmaaDoorWFootNe
import Derived.Test.YtloidjfcelbpmaaDoorWAt
import Derived.Test.YtloidjfcelbpmaaDoorWEqStruct
import Derived.Test.YtloidjfcelbpmaaDoorWRepsOne
import Derived.Test.YtloidjfcelbpmaaDoorWInv
import Derived.Test.YtloidjfcelbpmaaDoorWInvWords
import Derived.Test.YtloidjfcelbpmaaDoorWGuard
import Derived.Test.YtloidjfcelbpmaaDoorWNEv
import Derived.Test.YtloidjfcelbpmaaDoorWMore
namespace Go.Proofs.YtloidjfcelbpmaaDoor.PHangulParts
open Go.RowKit Go.Proofs.YtloidjfcelbpmaaDoorW.PrintWords Go.Proofs.YtloidjfcelbpmaaDoorW.PrintLast Go.Proofs.YtloidjfcelbpmaaDoorW.PrintMore
attribute [local go_sem] max2_int min2_int max_two min_two max_three min_three max_four min_four   -- for this text's walks alone
set_option linter.unusedVariables false
set_option linter.unusedSimpArgs false



def errW : Option Int → Value
  | none => .nilIface
  | some c => .iface 0 (.int .i64 c)
theorem errW_none : errW none = .nilIface := rfl
theorem errW_some (c : Int) : errW (some c) = .iface 0 (.int .i64 c) := rfl

theorem info21 : (Tryd.prog.info? 21).map (fun i => (i.zero, i.size, i.bytes)) = some (some (.int .i32 0), 1, 4) := by kernel_rfl
-- the values' own types

end Go.Proofs.YtloidjfcelbpmaaDoor.PHangulParts
