-- Written by a program of this session (patch_print.py over the kit's print; given texts in wip/given).
-- Cut down by a program of this session (wip/tools/prune.py) to what its claim can name.
import Derived.Test.YtochmlkladpfgaaDoorProg
import Derived.Below
import Derived.Deep.Draws
import Derived.Deep.AppendLies
import Derived.Maps.AppendAt
import Derived.OwnWalk
import Derived.Laws.BytesArg
import Derived.Laws.MakeOwn
import Derived.Laws.OwnMore
import Derived.Deep.OwnRows
import Derived.Tactics
import Derived.Lib.ConvBytes
import Derived.Laws.Slices
import Derived.WalkKit
import Derived.KernelRfl
import Derived.RowKit3
import Derived.Deep.LoopGhost
import Derived.Deep.QuietTactic
import Derived.BigQuiet
import Derived.WideLaws
import Derived.Deep.DeepCutAuto
import Derived.Deep.CutBlock
import Derived.Deep.RegionHeld3
import Derived.Laws.Rows
import Derived.Lib.AppendStr
import Derived.ArgAppend
import Derived.Laws.IdiomCopy
import Derived.OrdersHeld
import Derived.Laws.BitsLemmas
import Derived.RowKit
import Derived.WalkMore
import Derived.Laws.RangeString
import Derived.Laws.RangeAny
import Derived.Lib.Bytealg
import Derived.Lib.SplitLaws
import Derived.LoopN
import Derived.Laws.Runes
import Derived.Lib.IndexAny
import Derived.Lib.OthersKept
import Derived.Test.YtochmlkladpfgaaDoorShelf
import Derived.Test.YtochmlkladpfgaaDoorWWords
import Derived.Test.YtochmlkladpfgaaDoorWLast
import Derived.Test.YtochmlkladpfgaaDoorWTab
import Derived.Test.YtochmlkladpfgaaDoorWApart
import Derived.Test.YtochmlkladpfgaaDoorWFoot
import Derived.Test.YtochmlkladpfgaaDoorWKept
import Derived.Test.YtochmlkladpfgaaDoorWShare
import Derived.Test.YtochmlkladpfgaaDoorWN
import Derived.Laws.StructEq
import Derived.Test.YtochmlkladpfgaaDoorWRepsOne
import Derived.Test.YtochmlkladpfgaaDoorWInv
import Derived.Test.YtochmlkladpfgaaDoorWGuard
import Derived.Test.YtochmlkladpfgaaDoorWMore
namespace Go.Proofs.YtochmlkladpfgaaDoor.P
open Go.RowKit Go.Proofs.YtochmlkladpfgaaDoorW.PrintWords Go.Proofs.YtochmlkladpfgaaDoorW.PrintLast Go.Proofs.YtochmlkladpfgaaDoorW.PrintMore
attribute [local go_sem] max2_int min2_int max_two min_two max_three min_three max_four min_four   -- for this text's walks alone
set_option linter.unusedVariables false
set_option linter.unusedSimpArgs false



theorem emp_bne (l:List UInt8):(l != []) = !l.isEmpty:=by cases l <;> rfl
theorem emp_beq (l:List UInt8):(l == []) = l.isEmpty:=by cases l <;> rfl
theorem info5:(Tryd.prog.info? 5).map (fun i=>(i.zero,i.size,i.bytes)) = some (some (.int .u8 0),1,1):=by kernel_rfl
theorem info9:(Tryd.prog.info? 9).map (fun i=>(i.zero,i.size,i.bytes)) = some (some (.string ⟨#[]⟩),1,16):=by kernel_rfl
-- the values' own types

end Go.Proofs.YtochmlkladpfgaaDoor.P
