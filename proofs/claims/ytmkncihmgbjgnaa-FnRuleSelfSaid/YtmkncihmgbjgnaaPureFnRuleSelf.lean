/- A way that is a pattern has itself, and with its end nothing more. Condition: none. -/
import Derived.Test.YtmkncihmgbjgnaaPx24
import Derived.Test.YtmkncihmgbjgnaaPx3
import Derived.Test.YtmkncihmgbjgnaaPx5
import Derived.Test.YtmkncihmgbjgnaaDrawH
namespace Go.Proofs.Ytmkncihmgbjgnaa.Pure
open Go hiding stepT
open Go.RowKit Go.Proofs.Ytmkncihmgbjgnaa.P Go.Proofs.Ytmkncihmgbjgnaa.Lib Go.Proofs.Ytmkncihmgbjgnaa.CutP Go.Proofs.Ytmkncihmgbjgnaa.MatchP Go.Proofs.Ytmkncihmgbjgnaa.RuleOkF Go.Proofs.Ytmkncihmgbjgnaa.HasI Go.Proofs.Ytmkncihmgbjgnaa.DrawH Go.Proofs.YtmkncihmgbjgnaaW.PrintWords Go.Proofs.YtmkncihmgbjgnaaW.PrintLast
set_option linter.unusedVariables false
set_option linter.unusedSimpArgs false

theorem FnRuleSelf_triv (p s : ByteArray) : Ev (fun k => laws_FnRuleSelf.j0 k p s (ruleHas (L p) (L s)) true) true :=
  Ev.step (f := fun k => (spec_RuleHas.f k p s).bind fun t => some (ruleHas (L p) (L s) == t)) (fun k => by rw [laws_FnRuleSelf.j0, if_pos rfl]) (Ev.bind (HasV.spec_ev p s) (Ev.const (by simp)))

theorem FnRuleSelf : laws_FnRuleSelf.Pure := by
  intro l hm hb hw
  apply Ev.rounds
  unfold laws_FnRuleSelf.f
  by_cases h : (l.length : Int) > 1048576
  · exact Ev.pos h (Ev.const rfl)
  obtain ⟨p, s, hd, hp, hs⟩ := drawn hw
  have hLp := L_length p
  have hLs := L_length s
  have hs60 := hs.1
  refine Ev.neg h (Ev.bind hd (Ev.bind (HasV.impl_ev p s) (Ev.bind (HasV.spec_ev p s) (Ev.neg (by simp) (Ev.bind (RuleOkF.spec_ev s) ?_)))))
  cases hok : ruleOk (L s) with
  | false => exact FnRuleSelf_triv p s
  | true =>
    obtain ⟨o1, o2, o3, o4⟩ := ruleOk_parts.mp hok
    have he : endsT (L s) = false := by
      unfold endsT
      rw [decide_eq_false_iff_not]
      intro e
      exact hs.2.1 (List.mem_of_getLast? e)
    have hpat := okTail_last o4 he
    have e1 : ruleHas (L s) (L s) = true := by rw [ruleHas_has hok (by omega)]; exact has_self he
    have e2 : ruleHas (L (⟨#[47]⟩ : ByteArray)) (L s) = true := by
      rw [show L (⟨#[47]⟩ : ByteArray) = [47] from rfl, ruleHas_has rfl (by omega), ← lpM_has (by decide)]
      obtain ⟨r, hr⟩ := head_cons o3
      rw [hr]
      simp [lpM]
    have I1 := HasV.impl_ev s s
    have I2 := HasV.impl_ev (⟨#[47]⟩ : ByteArray) s
    rw [e1] at I1
    rw [e2] at I2
    have J : Ev (fun k => if (s.size : Int) ≥ 16 then (some true) else (if s.size + 1 ≤ 9223372036854775807 then ((impl_RuleHas.f k (s ++ (⟨#[36]⟩ : ByteArray)) s).bind fun t483 => (if t483 = true then ((impl_RuleHas.f k (s ++ (⟨#[36]⟩ : ByteArray)) (s ++ (⟨#[120]⟩ : ByteArray))).bind fun t484 => (some (!t484))) else (some false))) else (none))) true := by
      by_cases h16 : (s.size : Int) ≥ 16
      · exact Ev.pos h16 (Ev.const rfl)
      have hok2 : ruleOk (L s ++ [36]) = true := by
        obtain ⟨r, hr⟩ := head_cons o3
        rw [ruleOk_parts]
        exact ⟨by simp, by rw [List.length_append]; simp; omega, by rw [hr]; rfl, okTail_end hpat⟩
      have hends : endsT (L s ++ [36]) = true := by rw [ends_snoc]; rfl
      have hbody : bodyT (L s ++ [36]) = L s := by unfold bodyT; rw [hends, if_pos rfl, List.dropLast_concat]
      have e3 : ruleHas (L (s ++ (⟨#[36]⟩ : ByteArray))) (L s) = true := by
        rw [L_append, show L (⟨#[36]⟩ : ByteArray) = [36] from rfl, ruleHas_has hok2 (by omega)]
        unfold has
        rw [hends, if_pos rfl, hbody]
        exact mat_self _
      have e4 : ruleHas (L (s ++ (⟨#[36]⟩ : ByteArray))) (L (s ++ (⟨#[120]⟩ : ByteArray))) = false := by
        rw [L_append, L_append, show L (⟨#[36]⟩ : ByteArray) = [36] from rfl, show L (⟨#[120]⟩ : ByteArray) = [120] from rfl, ruleHas_has hok2 (by rw [List.length_append]; simp; omega)]
        unfold has
        rw [hends, if_pos rfl, hbody, Bool.eq_false_iff]
        intro hm
        have := congrArg List.length (mat_len hs.2.2 hm)
        rw [List.length_append] at this
        simp at this
      have I3 := HasV.impl_ev (s ++ (⟨#[36]⟩ : ByteArray)) s
      have I4 := HasV.impl_ev (s ++ (⟨#[36]⟩ : ByteArray)) (s ++ (⟨#[120]⟩ : ByteArray))
      rw [e3] at I3
      rw [e4] at I4
      exact Ev.neg h16 (Ev.pos (by omega) (Ev.bind I3 (Ev.pos rfl (Ev.bind I4 (Ev.const rfl)))))
    refine Ev.step (fun k => ?_) (Ev.bind I1 (f := fun k t481 => (if t481 = true then ((impl_RuleHas.f k (⟨#[47]⟩ : ByteArray) s).bind fun t482 => (if t482 = true then (if (s.size : Int) ≥ 16 then (some true) else (if s.size + 1 ≤ 9223372036854775807 then ((impl_RuleHas.f k (s ++ (⟨#[36]⟩ : ByteArray)) s).bind fun t483 => (if t483 = true then ((impl_RuleHas.f k (s ++ (⟨#[36]⟩ : ByteArray)) (s ++ (⟨#[120]⟩ : ByteArray))).bind fun t484 => (some (!t484))) else (some false))) else (none))) else (some false))) else (some false))) (Ev.pos rfl (Ev.bind I2 (Ev.pos rfl J))))
    rw [laws_FnRuleSelf.j0]; exact if_neg Bool.false_ne_true

end Go.Proofs.Ytmkncihmgbjgnaa.Pure
