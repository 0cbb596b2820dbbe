/- As many bytes are meant as ahead; so they are of a drawn text. Condition: none. -/
import Derived.Test.YtpganphmapdkcaaPx11
import Derived.Test.YtpganphmapdkcaaEscL
namespace Go.Proofs.Ytpganphmapdkcaa.Pure
open Go Go.RowKit Go.Proofs.Ytpganphmapdkcaa.P Go.Proofs.Ytpganphmapdkcaa.Lib Go.Proofs.Ytpganphmapdkcaa.EscP Go.Proofs.Ytpganphmapdkcaa.EscF Go.Proofs.Ytpganphmapdkcaa.EscI Go.Proofs.Ytpganphmapdkcaa.EscD Go.Proofs.Ytpganphmapdkcaa.EscL Go.Proofs.YtpganphmapdkcaaW.PrintWords Go.Proofs.YtpganphmapdkcaaW.PrintLast
set_option linter.unusedVariables false
set_option linter.unusedSimpArgs false

theorem FnEscBytes : laws_FnEscBytes.Pure := by
  intro l hm hb hw
  apply Ev.rounds
  unfold laws_FnEscBytes.f
  by_cases h : (l.length : Int) > 1048576
  · exact Ev.pos h (Ev.const rfl)
  obtain ⟨s, hs, hsz⟩ := drawn_text hw
  obtain ⟨r, h1, h2, hr⟩ := both s
  refine Ev.neg h (Ev.bind hs (Ev.bind h1 (Ev.bind h2 (Ev.neg (by simp) (Ev.pos rfl ?_)))))
  by_cases hk : r.2 = true
  · rw [hk]
    obtain ⟨u, hd, hu, hL⟩ := meant hr hk
    have e3 := (encs_len u).2
    have e1 := (dec_bd _ (Nat.le_refl _) (L_range s) hd).2
    rw [L_length] at e1
    have hh := congrArg List.length hL
    rw [L_length] at hh
    have A := bytes_ev (s := r.1) (by omega) (u := u) (by rw [hL]; exact dec_encs hu)
    have B := bytes_ev (s := s) (by omega) hd
    refine Ev.step (fun k => by simp only [laws_FnEscBytes.j0]; rw [if_neg (by simp)]) (Ev.bind A (Ev.bind B (Ev.pos rfl (Ev.bind B (Ev.const ?_)))))
    rw [w64 (x := 3 * (u.length : Int)) (by omega) (by omega), decide_eq_true (by omega)]
  · have : r.2 = false := by simpa using hk
    rw [this]
    exact Ev.step (f := fun _ => some true) (fun k => by simp [laws_FnEscBytes.j0]) (Ev.const rfl)

end Go.Proofs.Ytpganphmapdkcaa.Pure
