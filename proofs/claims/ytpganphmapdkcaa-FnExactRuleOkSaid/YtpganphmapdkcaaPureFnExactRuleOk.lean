/- The program's RuleOk returns what the reference's returns, for all arguments. Condition: none. -/
import Derived.Test.YtpganphmapdkcaaPx19
import Derived.Test.YtpganphmapdkcaaRuleOkF
namespace Go.Proofs.Ytpganphmapdkcaa.Pure
open Go Go.RowKit Go.Proofs.Ytpganphmapdkcaa.P Go.Proofs.Ytpganphmapdkcaa.Lib Go.Proofs.Ytpganphmapdkcaa.RuleOkF Go.Proofs.YtpganphmapdkcaaW.PrintWords Go.Proofs.YtpganphmapdkcaaW.PrintLast
set_option linter.unusedVariables false
set_option linter.unusedSimpArgs false

theorem FnExactRuleOk : laws_FnExactRuleOk.Pure := by
  intro s hs
  apply Ev.rounds
  unfold laws_FnExactRuleOk.f
  by_cases h : (s.size : Int) > 1048576
  · exact Ev.pos h (Ev.const rfl)
  refine Ev.neg h (Ev.bind (spec_ev s) (Ev.bind (impl_ev s) ?_))
  refine Ev.neg (by simp) (Ev.const rfl)

end Go.Proofs.Ytpganphmapdkcaa.Pure
