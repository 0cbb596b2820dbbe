/- A sign that is not whole is none; so it is behind a drawn text. Condition: none. -/
import Derived.Test.YtpganphmapdkcaaPx13
import Derived.Test.YtpganphmapdkcaaPx5
import Derived.Test.YtpganphmapdkcaaEscL
namespace Go.Proofs.Ytpganphmapdkcaa.Pure
open Go Go.RowKit Go.Proofs.Ytpganphmapdkcaa.P Go.Proofs.Ytpganphmapdkcaa.Lib Go.Proofs.Ytpganphmapdkcaa.EscP Go.Proofs.Ytpganphmapdkcaa.EscF Go.Proofs.Ytpganphmapdkcaa.EscI Go.Proofs.Ytpganphmapdkcaa.EscD Go.Proofs.Ytpganphmapdkcaa.EscL Go.Proofs.YtpganphmapdkcaaW.PrintWords Go.Proofs.YtpganphmapdkcaaW.PrintLast
set_option linter.unusedVariables false
set_option linter.unusedSimpArgs false

theorem FnEscNone : laws_FnEscNone.Pure := by
  intro l hm hb hw
  apply Ev.rounds
  unfold laws_FnEscNone.f
  by_cases h : (l.length : Int) > 1048576
  · exact Ev.pos h (Ev.const rfl)
  obtain ⟨s, hs, hsz⟩ := drawn_text hw
  obtain ⟨r, h1, h2, hr⟩ := both s
  refine Ev.neg h (Ev.bind hs (Ev.bind h1 (Ev.bind h2 (Ev.neg (by simp) (Ev.pos rfl ?_)))))
  rw [w64 (x := (s.size : Int) + 2) (by omega) (by omega)]
  by_cases hl : (s.size : Int) + 2 > 60
  · rw [decide_eq_true hl]
    refine Ev.step (f := fun _ => some true) (fun k => ?_) (Ev.const rfl)
    simp [laws_FnEscNone.j0]
  rw [decide_eq_false hl]
  have no : ∀ q : ByteArray, (L q = [37] ∨ L q = [37, 52]) → ∃ z, Ev (fun k => impl_EscNorm.f k (s ++ q)) z ∧ ¬ z.2 = true := by
    intro q hq
    obtain ⟨z, _, z2, hz⟩ := both (s ++ q)
    have he : escN (L (s ++ q)) = none := by
      unfold escN
      split
      · unfold esc; rw [L_append, dec_cut_none hq _ _ (Nat.le_refl _)]; rfl
      · rfl
    exact ⟨z, z2, by rw [isNorm_none hz he]; simp⟩
  obtain ⟨a, a2, ha⟩ := no (⟨#[37]⟩ : ByteArray) (.inl rfl)
  obtain ⟨b, b2, hb'⟩ := no (⟨#[37, 52]⟩ : ByteArray) (.inr rfl)
  obtain ⟨c, _, c2, hc⟩ := both (⟨#[]⟩ : ByteArray)
  have he : escN (L (⟨#[]⟩ : ByteArray)) = some [] := by
    unfold escN; rw [L_empty, if_pos (by simp), esc_nil]
  obtain ⟨e1, e2⟩ := isNorm_some hc he
  apply Ev.enter
  simp only [laws_FnEscNone.j0, Bool.false_eq_true, if_false]
  refine Ev.pos (by omega) ?_
  refine Ev.bind a2 ?_
  refine Ev.pos (by omega) ?_
  refine Ev.bind b2 ?_
  refine Ev.bind c2 ?_
  refine Ev.neg ha (Ev.neg hb' (Ev.pos e1 (Ev.const ?_)))
  have : c.1 = (⟨#[]⟩ : ByteArray) := L_inj (by rw [e2, L_empty])
  rw [this, Go.ByteArray.toList_eq]; rfl

end Go.Proofs.Ytpganphmapdkcaa.Pure
