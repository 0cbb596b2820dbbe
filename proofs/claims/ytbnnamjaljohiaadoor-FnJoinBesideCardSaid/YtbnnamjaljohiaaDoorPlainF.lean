/- What stands for itself. Condition: none. -/
-- Cut down by a program of this session (wip/tools/prune.py) to what its claim can name.
import Derived.Test.YtbnnamjaljohiaaDoorPx2
import Derived.Test.YtbnnamjaljohiaaDoorPx5
import Derived.Test.YtbnnamjaljohiaaDoorDraw
import Derived.Test.YtbnnamjaljohiaaDoorByteP
namespace Go.Proofs.YtbnnamjaljohiaaDoor.RuleOkF
open Go Go.RowKit Go.Proofs.YtbnnamjaljohiaaDoor.P Go.Proofs.YtbnnamjaljohiaaDoor.Lib Go.Proofs.YtbnnamjaljohiaaDoor.Draw Go.Proofs.YtbnnamjaljohiaaDoor.EscP Go.Proofs.YtbnnamjaljohiaaDoorW.PrintWords Go.Proofs.YtbnnamjaljohiaaDoorW.PrintLast
set_option linter.unusedVariables false
set_option linter.unusedSimpArgs false

theorem spec_plain (b:Int):spec_l1Plain.f b = some (plainB b):=by
 unfold spec_l1Plain.f plainB
 simp only [ge_iff_le]
 repeat' split
 all_goals simp_all
 all_goals omega

theorem impl_plain (b:Int):impl_standsForItself.f b = some (plainB b):=by
 unfold impl_standsForItself.f plainB
 simp only [ge_iff_le]
 repeat' split
 all_goals simp_all
 all_goals omega

end Go.Proofs.YtbnnamjaljohiaaDoor.RuleOkF
