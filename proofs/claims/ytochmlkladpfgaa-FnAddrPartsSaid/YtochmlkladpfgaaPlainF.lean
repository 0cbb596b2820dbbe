/- What stands for itself. Condition: none. -/
import Derived.Test.YtochmlkladpfgaaPx2
import Derived.Test.YtochmlkladpfgaaPx5
import Derived.Test.YtochmlkladpfgaaDraw
import Derived.Test.YtochmlkladpfgaaByteP
namespace Go.Proofs.Ytochmlkladpfgaa.RuleOkF
open Go Go.RowKit Go.Proofs.Ytochmlkladpfgaa.P Go.Proofs.Ytochmlkladpfgaa.Lib Go.Proofs.Ytochmlkladpfgaa.Draw Go.Proofs.Ytochmlkladpfgaa.EscP Go.Proofs.YtochmlkladpfgaaW.PrintWords Go.Proofs.YtochmlkladpfgaaW.PrintLast
set_option linter.unusedVariables false
set_option linter.unusedSimpArgs false

theorem spec_plain (b : Int) : spec_l1Plain.f b = some (plainB b) := by
  unfold spec_l1Plain.f plainB
  simp only [ge_iff_le]
  repeat' split
  all_goals simp_all
  all_goals omega

theorem impl_plain (b : Int) : impl_standsForItself.f b = some (plainB b) := by
  unfold impl_standsForItself.f plainB
  simp only [ge_iff_le]
  repeat' split
  all_goals simp_all
  all_goals omega

end Go.Proofs.Ytochmlkladpfgaa.RuleOkF
