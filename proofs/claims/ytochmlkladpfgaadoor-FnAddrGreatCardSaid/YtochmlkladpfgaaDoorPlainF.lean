/- What stands for itself. Condition: none. -/
-- Cut down by a program of this session (wip/tools/prune.py) to what its claim can name.
import Derived.Test.YtochmlkladpfgaaDoorPx2
import Derived.Test.YtochmlkladpfgaaDoorPx5
import Derived.Test.YtochmlkladpfgaaDoorDraw
import Derived.Test.YtochmlkladpfgaaDoorByteP
namespace Go.Proofs.YtochmlkladpfgaaDoor.RuleOkF
open Go Go.RowKit Go.Proofs.YtochmlkladpfgaaDoor.P Go.Proofs.YtochmlkladpfgaaDoor.Lib Go.Proofs.YtochmlkladpfgaaDoor.Draw Go.Proofs.YtochmlkladpfgaaDoor.EscP Go.Proofs.YtochmlkladpfgaaDoorW.PrintWords Go.Proofs.YtochmlkladpfgaaDoorW.PrintLast
set_option linter.unusedVariables false
set_option linter.unusedSimpArgs false

theorem spec_plain (b:Int):spec_l1Plain.f b = some (plainB b):=by
 unfold spec_l1Plain.f plainB
 simp only [ge_iff_le]
 repeat' split
 all_goals simp_all
 all_goals omega

theorem impl_plain (b:Int):impl_standsForItself.f b = some (plainB b):=by
 unfold impl_standsForItself.f plainB
 simp only [ge_iff_le]
 repeat' split
 all_goals simp_all
 all_goals omega

end Go.Proofs.YtochmlkladpfgaaDoor.RuleOkF
