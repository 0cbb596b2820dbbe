-- Written by a program of this session (patch_print.py over the kit's print; given texts in wip/given).
import Derived.Test.YtpganphmapdkcaaProg
import Derived.Below
import Derived.Deep.Draws
import Derived.Deep.AppendLies
import Derived.Maps.AppendAt
import Derived.OwnWalk
import Derived.Laws.BytesArg
import Derived.Laws.MakeOwn
import Derived.Laws.OwnMore
import Derived.Deep.OwnRows
import Derived.Tactics
import Derived.Lib.ConvBytes
import Derived.Laws.Slices
import Derived.WalkKit
import Derived.KernelRfl
import Derived.RowKit3
import Derived.Deep.LoopGhost
import Derived.Deep.QuietTactic
import Derived.BigQuiet
import Derived.WideLaws
import Derived.Deep.DeepCutAuto
import Derived.Deep.CutBlock
import Derived.Deep.RegionHeld3
import Derived.Laws.Rows
import Derived.Lib.AppendStr
import Derived.ArgAppend
import Derived.Laws.IdiomCopy
import Derived.OrdersHeld
import Derived.Laws.BitsLemmas
import Derived.RowKit
import Derived.WalkMore
import Derived.Laws.RangeString
import Derived.Laws.RangeAny
import Derived.Test.YtpganphmapdkcaaWWords
import Derived.Test.YtpganphmapdkcaaWLast
import Derived.Test.YtpganphmapdkcaaWTab
import Derived.Test.YtpganphmapdkcaaWFour
import Derived.Test.YtpganphmapdkcaaWQPut
import Derived.Test.YtpganphmapdkcaaWApart
import Derived.Test.YtpganphmapdkcaaWArr
import Derived.Test.YtpganphmapdkcaaWZeros
import Derived.Test.YtpganphmapdkcaaWFoot
import Derived.Test.YtpganphmapdkcaaWKept
import Derived.Test.YtpganphmapdkcaaWShare
import Derived.Test.YtpganphmapdkcaaWN
import Derived.Test.YtpganphmapdkcaaWFootNe
import Derived.Test.YtpganphmapdkcaaWAt
import Derived.Test.YtpganphmapdkcaaWEqStruct
import Derived.Test.YtpganphmapdkcaaWRepsOne
import Derived.Test.YtpganphmapdkcaaWInv
import Derived.Test.YtpganphmapdkcaaWInvWords
import Derived.Test.YtpganphmapdkcaaWGuard
import Derived.Test.YtpganphmapdkcaaWNEv
import Derived.Test.YtpganphmapdkcaaWMore
namespace Go.Proofs.Ytpganphmapdkcaa.P
open Go.RowKit Go.Proofs.YtpganphmapdkcaaW.PrintWords Go.Proofs.YtpganphmapdkcaaW.PrintLast Go.Proofs.YtpganphmapdkcaaW.PrintMore
attribute [local go_sem] max2_int min2_int max_two min_two max_three min_three max_four min_four   -- for this text's walks alone
set_option linter.unusedVariables false
set_option linter.unusedSimpArgs false



def errW : Option Int → Value
  | none => .nilIface
  | some c => .iface 0 (.int .i64 c)
theorem errW_none : errW none = .nilIface := rfl
theorem errW_some (c : Int) : errW (some c) = .iface 0 (.int .i64 c) := rfl

theorem info5 : (Try.prog.info? 5).map (fun i => (i.zero, i.size, i.bytes)) = some (some (.int .u8 0), 1, 1) := by kernel_rfl
theorem info9 : (Try.prog.info? 9).map (fun i => (i.zero, i.size, i.bytes)) = some (some (.string ⟨#[]⟩), 1, 16) := by kernel_rfl
-- the values' own types

end Go.Proofs.Ytpganphmapdkcaa.P
