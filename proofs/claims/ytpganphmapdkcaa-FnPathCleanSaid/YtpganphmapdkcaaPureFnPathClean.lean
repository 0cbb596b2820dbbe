/- Nothing that leads nowhere is left; so it is not of drawn parts; twice is once. Condition: none. -/
import Derived.Test.YtpganphmapdkcaaPx20
import Derived.Test.YtpganphmapdkcaaPathI
import Derived.Test.YtpganphmapdkcaaPathW
namespace Go.Proofs.Ytpganphmapdkcaa.Pure
open Go Go.RowKit Go.Proofs.Ytpganphmapdkcaa.P Go.Proofs.Ytpganphmapdkcaa.Lib Go.Proofs.Ytpganphmapdkcaa.PathP Go.Proofs.Ytpganphmapdkcaa.PathF Go.Proofs.Ytpganphmapdkcaa.PathL Go.Proofs.YtpganphmapdkcaaW.PrintWords Go.Proofs.YtpganphmapdkcaaW.PrintLast
set_option linter.unusedVariables false
set_option linter.unusedSimpArgs false

theorem FnPathClean : laws_FnPathClean.Pure := by
  intro l hm hb hw
  apply Ev.rounds
  unfold laws_FnPathClean.f
  by_cases h : (l.length : Int) > 1048576
  · exact Ev.pos h (Ev.const rfl)
  obtain ⟨x, hx, hl⟩ := drawn_parts hw
  have hc := clean_len x
  have hw' := clean_ways x
  have T := texts_ev (a := clean x) (b := clean x) (by omega)
  rw [decide_eq_true rfl] at T
  have N : ∀ s : ByteArray, (Idle s ∨ Up s) → Ev (fun k => laws_lpHas.f k (clean x) s) false := by
    intro s hs
    have := has_ev (a := clean x) (s := s) (by omega)
    have hf : isIn s (clean x) = false := Bool.eq_false_iff.mpr (fun hm => by
      have := hw' s (isIn_iff.mp hm)
      rcases hs with hs | hs
      · exact this.1 hs
      · exact this.2 hs)
    rwa [hf] at this
  have C := PathI.impl_ev (x := clean x) (by omega)
  rw [clean_clean] at C
  refine Ev.neg h (Ev.bind hx (Ev.bind (PathI.impl_ev (by omega)) (Ev.bind (spec_ev (by omega)) (Ev.bind T (Ev.pos rfl ?_)))))
  refine Ev.bind (N _ (.inl (.inl rfl))) (Ev.neg (by simp) (Ev.bind (N _ (.inl (.inr rfl))) (Ev.neg (by simp) (Ev.bind (N _ (.inr rfl)) (Ev.neg (by simp) ?_)))))
  exact Ev.bind (within_ev (by omega) (by omega) (clean_sub x)) (Ev.pos rfl (Ev.bind C (Ev.bind T (Ev.const rfl))))

end Go.Proofs.Ytpganphmapdkcaa.Pure
