/- The program's EscNorm returns what the reference's returns, for all arguments. Condition: none. -/
import Derived.Test.YtpganphmapdkcaaPx16
import Derived.Test.YtpganphmapdkcaaEscI
namespace Go.Proofs.Ytpganphmapdkcaa.Pure
open Go Go.RowKit Go.Proofs.Ytpganphmapdkcaa.P Go.Proofs.Ytpganphmapdkcaa.Lib Go.Proofs.Ytpganphmapdkcaa.EscF Go.Proofs.Ytpganphmapdkcaa.EscI Go.Proofs.YtpganphmapdkcaaW.PrintWords Go.Proofs.YtpganphmapdkcaaW.PrintLast
set_option linter.unusedVariables false
set_option linter.unusedSimpArgs false

theorem FnExactEscNorm : laws_FnExactEscNorm.Pure := by
  intro s hs
  apply Ev.rounds
  unfold laws_FnExactEscNorm.f
  by_cases h : (s.size : Int) > 1048576
  · exact Ev.pos h (Ev.const rfl)
  obtain ⟨r, h1, h2, _⟩ := both s
  exact Ev.neg h (Ev.bind h1 (Ev.bind h2 (Ev.pos rfl (Ev.neg (by simp) (Ev.const rfl)))))

end Go.Proofs.Ytpganphmapdkcaa.Pure
