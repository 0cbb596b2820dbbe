-- Written by a program of this session (patch_print.py over the kit's print; given texts in wip/given).
import Derived.Test.YtagahkoafepehaaProg
import Derived.Below
import Derived.Deep.Draws
import Derived.Deep.AppendLies
import Derived.Maps.AppendAt
import Derived.OwnWalk
import Derived.Laws.BytesArg
import Derived.Laws.MakeOwn
import Derived.Laws.OwnMore
import Derived.Deep.OwnRows
import Derived.Tactics
import Derived.Lib.ConvBytes
import Derived.Laws.Slices
import Derived.WalkKit
import Derived.KernelRfl
import Derived.RowKit3
import Derived.Deep.LoopGhost
import Derived.Deep.QuietTactic
import Derived.BigQuiet
import Derived.WideLaws
import Derived.Deep.DeepCutAuto
import Derived.Deep.CutBlock
import Derived.Deep.RegionHeld3
import Derived.Laws.Rows
import Derived.Lib.AppendStr
import Derived.ArgAppend
import Derived.Laws.IdiomCopy
import Derived.OrdersHeld
import Derived.Laws.BitsLemmas
import Derived.RowKit
import Derived.WalkMore
import Derived.Laws.RangeString
import Derived.Laws.RangeAny
import Derived.Lib.Bytealg
import Derived.Lib.SplitLaws
import Derived.LoopN
import Derived.Laws.Runes
import Derived.Lib.IndexAny
import Derived.Lib.OthersKept
import Derived.Test.YtagahkoafepehaaWWords
import Derived.Test.YtagahkoafepehaaWLast
import Derived.Test.YtagahkoafepehaaWTab
import Derived.Test.YtagahkoafepehaaWFour
import Derived.Test.YtagahkoafepehaaWQPut
import Derived.Test.YtagahkoafepehaaWApart
import Derived.Test.YtagahkoafepehaaWArr
import Derived.Test.YtagahkoafepehaaWZeros
import Derived.Test.YtagahkoafepehaaWFoot
import Derived.Test.YtagahkoafepehaaWKept
import Derived.Test.YtagahkoafepehaaWShare
import Derived.Test.YtagahkoafepehaaWN
import Derived.Test.YtagahkoafepehaaWFootNe
import Derived.Test.YtagahkoafepehaaWAt
import Derived.Test.YtagahkoafepehaaWEqStruct
import Derived.Test.YtagahkoafepehaaWRepsOne
import Derived.Test.YtagahkoafepehaaWInv
import Derived.Test.YtagahkoafepehaaWInvWords
import Derived.Test.YtagahkoafepehaaWGuard
import Derived.Test.YtagahkoafepehaaWNEv
import Derived.Test.YtagahkoafepehaaWMore
namespace Go.Proofs.Ytagahkoafepehaa.P
open Go.RowKit Go.Proofs.YtagahkoafepehaaW.PrintWords Go.Proofs.YtagahkoafepehaaW.PrintLast Go.Proofs.YtagahkoafepehaaW.PrintMore
attribute [local go_sem] max2_int min2_int max_two min_two max_three min_three max_four min_four   -- for this text's walks alone
set_option linter.unusedVariables false
set_option linter.unusedSimpArgs false



def errW : Option Int → Value
 | none => .nilIface
 | some c => .iface 0 (.int .i64 c)
theorem errW_none : errW none = .nilIface := rfl
theorem errW_some (c : Int) : errW (some c) = .iface 0 (.int .i64 c) := rfl

theorem emp_bne (l : List UInt8) : (l != []) = !l.isEmpty := by cases l <;> rfl
theorem emp_beq (l : List UInt8) : (l == []) = l.isEmpty := by cases l <;> rfl
theorem info5 : (Try.prog.info? 5).map (fun i => (i.zero, i.size, i.bytes)) = some (some (.int .u8 0), 1, 1) := by kernel_rfl
theorem info9 : (Try.prog.info? 9).map (fun i => (i.zero, i.size, i.bytes)) = some (some (.string ⟨#[]⟩), 1, 16) := by kernel_rfl
-- the values' own types

end Go.Proofs.Ytagahkoafepehaa.P
