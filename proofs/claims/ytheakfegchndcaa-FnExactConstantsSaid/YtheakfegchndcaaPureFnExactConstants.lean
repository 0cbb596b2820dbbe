/- The program's constants are the reference's. Condition: none. -/
import Derived.Test.YtheakfegchndcaaPx14
import Derived.Test.YtheakfegchndcaaPx14
namespace Go.Proofs.Ytheakfegchndcaa.Pure
open Go.RowKit Go.Proofs.Ytheakfegchndcaa.P Go.Proofs.YtheakfegchndcaaW.PrintWords Go.Proofs.YtheakfegchndcaaW.PrintLast
set_option linter.unusedVariables false
set_option linter.unusedSimpArgs false

theorem FnExactConstants : laws_FnExactConstants.Pure := by
  first
  | rfl
  | (unfold laws_FnExactConstants.Pure; rfl)
  | (unfold laws_FnExactConstants.Pure laws_FnExactConstants.f; simp)

end Go.Proofs.Ytheakfegchndcaa.Pure
