/- What is written in one way is written so again; so is a drawn text. Condition: none. -/
import Derived.Test.YtpganphmapdkcaaPx15
import Derived.Test.YtpganphmapdkcaaEscL
namespace Go.Proofs.Ytpganphmapdkcaa.Pure
open Go Go.RowKit Go.Proofs.Ytpganphmapdkcaa.P Go.Proofs.Ytpganphmapdkcaa.Lib Go.Proofs.Ytpganphmapdkcaa.EscP Go.Proofs.Ytpganphmapdkcaa.EscF Go.Proofs.Ytpganphmapdkcaa.EscI Go.Proofs.Ytpganphmapdkcaa.EscD Go.Proofs.Ytpganphmapdkcaa.EscL Go.Proofs.YtpganphmapdkcaaW.PrintWords Go.Proofs.YtpganphmapdkcaaW.PrintLast
set_option linter.unusedVariables false
set_option linter.unusedSimpArgs false

theorem FnEscTwice : laws_FnEscTwice.Pure := by
  intro l hm hb hw
  apply Ev.rounds
  unfold laws_FnEscTwice.f
  by_cases h : (l.length : Int) > 1048576
  · exact Ev.pos h (Ev.const rfl)
  obtain ⟨s, hs, _⟩ := drawn_text hw
  obtain ⟨r, h1, h2, hr⟩ := both s
  refine Ev.neg h (Ev.bind hs (Ev.bind h1 (Ev.bind h2 (Ev.neg (by simp) (Ev.pos rfl ?_)))))
  by_cases hk : r.2 = true
  rotate_left
  · exact Ev.neg hk (Ev.const (by simp))
  refine Ev.pos hk ?_
  by_cases hl : (r.1.size : Int) > 60
  · exact Ev.pos hl (Ev.const (by simp))
  refine Ev.neg hl ?_
  obtain ⟨q, _, q2, hq⟩ := both r.1
  obtain ⟨u, hd, hu, hL⟩ := meant hr hk
  have he : escN (L r.1) = some (L r.1) := by
    unfold escN
    rw [if_pos (by rw [L_length]; omega), hL]
    unfold esc; rw [dec_encs hu]; rfl
  obtain ⟨e1, e2⟩ := isNorm_some hq he
  exact Ev.bind q2 (Ev.pos e1 (Ev.const (by rw [L_inj e2]; simp)))

end Go.Proofs.Ytpganphmapdkcaa.Pure
