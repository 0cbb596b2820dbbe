/- What stands for itself. Condition: none. -/
import Derived.Test.YtheakfegchndcaaPx10
import Derived.Test.YtheakfegchndcaaPx12
import Derived.Test.YtheakfegchndcaaDraw
import Derived.Test.YtheakfegchndcaaByteP
namespace Go.Proofs.Ytheakfegchndcaa.RuleOkF
open Go Go.RowKit Go.Proofs.Ytheakfegchndcaa.P Go.Proofs.Ytheakfegchndcaa.Lib Go.Proofs.Ytheakfegchndcaa.Draw Go.Proofs.Ytheakfegchndcaa.EscP Go.Proofs.YtheakfegchndcaaW.PrintWords Go.Proofs.YtheakfegchndcaaW.PrintLast
set_option linter.unusedVariables false
set_option linter.unusedSimpArgs false

theorem spec_plain (b : Int) : spec_l1Plain.f b = some (plainB b) := by
  unfold spec_l1Plain.f plainB
  simp only [ge_iff_le]
  repeat' split
  all_goals simp_all
  all_goals omega

theorem impl_plain (b : Int) : impl_standsForItself.f b = some (plainB b) := by
  unfold impl_standsForItself.f plainB
  simp only [ge_iff_le]
  repeat' split
  all_goals simp_all
  all_goals omega

end Go.Proofs.Ytheakfegchndcaa.RuleOkF
