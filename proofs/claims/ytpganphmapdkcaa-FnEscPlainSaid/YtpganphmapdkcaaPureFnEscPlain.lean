/- A text is written of what stands for itself, and signs; so is a drawn one. Condition: none. -/
import Derived.Test.YtpganphmapdkcaaPx14
import Derived.Test.YtpganphmapdkcaaEscL
namespace Go.Proofs.Ytpganphmapdkcaa.Pure
open Go Go.RowKit Go.Proofs.Ytpganphmapdkcaa.P Go.Proofs.Ytpganphmapdkcaa.Lib Go.Proofs.Ytpganphmapdkcaa.EscP Go.Proofs.Ytpganphmapdkcaa.EscF Go.Proofs.Ytpganphmapdkcaa.EscI Go.Proofs.Ytpganphmapdkcaa.EscD Go.Proofs.Ytpganphmapdkcaa.EscL Go.Proofs.YtpganphmapdkcaaW.PrintWords Go.Proofs.YtpganphmapdkcaaW.PrintLast
set_option linter.unusedVariables false
set_option linter.unusedSimpArgs false

theorem FnEscPlain : laws_FnEscPlain.Pure := by
  intro l hm hb hw
  apply Ev.rounds
  unfold laws_FnEscPlain.f
  by_cases h : (l.length : Int) > 1048576
  · exact Ev.pos h (Ev.const rfl)
  obtain ⟨s, hs, hsz⟩ := drawn_text hw
  obtain ⟨r, h1, h2, hr⟩ := both s
  refine Ev.neg h (Ev.bind hs (Ev.bind h1 (Ev.bind h2 (Ev.neg (by simp) (Ev.pos rfl ?_)))))
  by_cases hk : r.2 = true
  · rw [hk]
    obtain ⟨u, hd, hu, hL⟩ := meant hr hk
    have hl : r.1.size ≤ 100000 := by
      have := (encs_len u).2
      have := (dec_bd _ (Nat.le_refl _) (L_range s) hd).2
      rw [L_length] at this
      have hh := congrArg List.length hL
      rw [L_length] at hh
      omega
    refine Ev.step (f := fun k => laws_FnEscPlain.l0 k r.1 0) (fun k => by simp [laws_FnEscPlain.j0]) (plain_loop r.1 hl u 0 hu (by omega) (by omega) (by simpa using hL))
  · have : r.2 = false := by simpa using hk
    rw [this]
    exact Ev.step (f := fun _ => some true) (fun k => by simp [laws_FnEscPlain.j0]) (Ev.const rfl)

end Go.Proofs.Ytpganphmapdkcaa.Pure
