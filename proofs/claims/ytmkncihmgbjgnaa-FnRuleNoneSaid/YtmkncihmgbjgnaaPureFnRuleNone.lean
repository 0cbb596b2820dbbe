/- Nothing has a pattern that is none, and none has the way that is none. Condition: none. -/
import Derived.Test.YtmkncihmgbjgnaaPx23
import Derived.Test.YtmkncihmgbjgnaaDrawH
namespace Go.Proofs.Ytmkncihmgbjgnaa.Pure
open Go hiding stepT
open Go.RowKit Go.Proofs.Ytmkncihmgbjgnaa.P Go.Proofs.Ytmkncihmgbjgnaa.Lib Go.Proofs.Ytmkncihmgbjgnaa.CutP Go.Proofs.Ytmkncihmgbjgnaa.MatchP Go.Proofs.Ytmkncihmgbjgnaa.RuleOkF Go.Proofs.Ytmkncihmgbjgnaa.HasI Go.Proofs.Ytmkncihmgbjgnaa.DrawH Go.Proofs.YtmkncihmgbjgnaaW.PrintWords Go.Proofs.YtmkncihmgbjgnaaW.PrintLast
set_option linter.unusedVariables false
set_option linter.unusedSimpArgs false

theorem FnRuleNone : laws_FnRuleNone.Pure := by
  intro l hm hb hw
  apply Ev.rounds
  unfold laws_FnRuleNone.f
  by_cases h : (l.length : Int) > 1048576
  · exact Ev.pos h (Ev.const rfl)
  obtain ⟨p, s, hd, hp, hs⟩ := drawn hw
  have h1 : ruleHas (L (⟨#[]⟩ : ByteArray)) (L s) = false := ruleHas_ok rfl
  have h2 : ruleHas (L ((⟨#[97]⟩ : ByteArray) ++ p)) (L s) = false := by
    apply ruleHas_ok
    rw [L_append, show L (⟨#[97]⟩ : ByteArray) = [97] from rfl]
    rw [Bool.eq_false_iff]
    intro e
    have e := (ruleOk_parts.mp e).2.2.1
    rw [List.cons_append, List.head?_cons] at e
    cases e
  have h3 : ruleHas (L p) (L (⟨#[]⟩ : ByteArray)) = false := by
    rw [L_empty]
    cases hok : ruleOk (L p) with
    | true => rw [ruleHas_has hok (by simp)]; exact has_nil hok
    | false => exact ruleHas_ok hok
  have I1 := HasV.impl_ev (⟨#[]⟩ : ByteArray) s
  have I2 := HasV.impl_ev ((⟨#[97]⟩ : ByteArray) ++ p) s
  have I3 := HasV.impl_ev p (⟨#[]⟩ : ByteArray)
  rw [h1] at I1
  rw [h2] at I2
  rw [h3] at I3
  refine Ev.neg h (Ev.bind hd (Ev.bind (HasV.impl_ev p s) (Ev.bind (HasV.spec_ev p s) (Ev.neg (by simp) (Ev.bind I1 (Ev.neg Bool.false_ne_true (Ev.pos (show 1 + p.size ≤ 9223372036854775807 by omega) (Ev.bind I2 (Ev.neg Bool.false_ne_true (Ev.bind I3 (Ev.neg Bool.false_ne_true (Ev.bind (RuleOkF.impl_ev p) ?_))))))))))))
  cases hok : ruleOk (L p) with
  | true => exact Ev.pos rfl (Ev.const rfl)
  | false => exact Ev.neg Bool.false_ne_true (Ev.const (by rw [ruleHas_ok hok]; rfl))

end Go.Proofs.Ytmkncihmgbjgnaa.Pure
