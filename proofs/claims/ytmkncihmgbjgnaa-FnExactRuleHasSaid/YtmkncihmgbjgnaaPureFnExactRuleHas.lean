/- RuleHas answers as the reference does. Condition: none. -/
import Derived.Test.YtmkncihmgbjgnaaPx16
import Derived.Test.YtmkncihmgbjgnaaHasV
namespace Go.Proofs.Ytmkncihmgbjgnaa.Pure
open Go Go.RowKit Go.Proofs.Ytmkncihmgbjgnaa.P Go.Proofs.Ytmkncihmgbjgnaa.Lib Go.Proofs.Ytmkncihmgbjgnaa.HasI Go.Proofs.YtmkncihmgbjgnaaW.PrintWords Go.Proofs.YtmkncihmgbjgnaaW.PrintLast
set_option linter.unusedVariables false
set_option linter.unusedSimpArgs false

theorem FnExactRuleHas : laws_FnExactRuleHas.Pure := by
  intro p s hp hs
  apply Ev.rounds
  unfold laws_FnExactRuleHas.f
  by_cases h1 : (p.size : Int) > 1048576
  · exact Ev.pos h1 (Ev.const rfl)
  by_cases h2 : (s.size : Int) > 1048576
  · exact Ev.neg h1 (Ev.pos h2 (Ev.const rfl))
  exact Ev.neg h1 (Ev.neg h2 (Ev.bind (HasV.spec_ev p s) (Ev.bind (HasV.impl_ev p s) (Ev.neg (by simp) (Ev.const rfl)))))

end Go.Proofs.Ytmkncihmgbjgnaa.Pure
