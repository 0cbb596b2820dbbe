/- What has a pattern up to its end has it without. Condition: none. -/
import Derived.Test.YtmkncihmgbjgnaaPx20
import Derived.Test.YtmkncihmgbjgnaaPx3
import Derived.Test.YtmkncihmgbjgnaaPx5
import Derived.Test.YtmkncihmgbjgnaaDrawH
namespace Go.Proofs.Ytmkncihmgbjgnaa.Pure
open Go hiding stepT
open Go.RowKit Go.Proofs.Ytmkncihmgbjgnaa.P Go.Proofs.Ytmkncihmgbjgnaa.Lib Go.Proofs.Ytmkncihmgbjgnaa.CutP Go.Proofs.Ytmkncihmgbjgnaa.MatchP Go.Proofs.Ytmkncihmgbjgnaa.RuleOkF Go.Proofs.Ytmkncihmgbjgnaa.HasI Go.Proofs.Ytmkncihmgbjgnaa.DrawH Go.Proofs.YtmkncihmgbjgnaaW.PrintWords Go.Proofs.YtmkncihmgbjgnaaW.PrintLast
set_option linter.unusedVariables false
set_option linter.unusedSimpArgs false

theorem FnRuleEnd_triv (p s : ByteArray) : Ev (fun k => laws_FnRuleEnd.j0 k p s (ruleHas (L p) (L s)) true) true :=
  Ev.step (f := fun k => (spec_RuleHas.f k p s).bind fun t => some (ruleHas (L p) (L s) == t)) (fun k => by rw [laws_FnRuleEnd.j0, if_pos rfl]) (Ev.bind (HasV.spec_ev p s) (Ev.const (by simp)))

theorem FnRuleEnd : laws_FnRuleEnd.Pure := by
  intro l hm hb hw
  apply Ev.rounds
  unfold laws_FnRuleEnd.f
  by_cases h : (l.length : Int) > 1048576
  · exact Ev.pos h (Ev.const rfl)
  obtain ⟨p, s, hd, hp, hs⟩ := drawn hw
  have hLp := L_length p
  have hLs := L_length s
  have hs60 := hs.1
  refine Ev.neg h (Ev.bind hd (Ev.bind (HasV.impl_ev p s) (Ev.bind (HasV.spec_ev p s) (Ev.neg (by simp) (Ev.bind (RuleOkF.spec_ev p) ?_)))))
  cases hok : ruleOk (L p) with
  | false => exact Ev.neg Bool.false_ne_true (FnRuleEnd_triv p s)
  | true =>
    refine Ev.pos rfl (Ev.bind0 (ends_ev p (by omega)) ?_)
    cases he : endsT (L p) with
    | true => exact Ev.pos rfl (FnRuleEnd_triv p s)
    | false =>
      refine Ev.neg Bool.false_ne_true ?_
      by_cases h16 : (p.size : Int) ≥ 16
      · rw [decide_eq_true h16]; exact FnRuleEnd_triv p s
      · rw [decide_eq_false h16]
        have I := HasV.impl_ev (p ++ (⟨#[36]⟩ : ByteArray)) s
        refine Ev.step (f := fun k => if p.size + 1 ≤ 9223372036854775807 then ((impl_RuleHas.f k (p ++ (⟨#[36]⟩ : ByteArray)) s).bind fun t449 => (if t449 = true then (some (ruleHas (L p) (L s))) else (some true))) else (none)) (fun k => by rw [laws_FnRuleEnd.j0, if_neg Bool.false_ne_true]) (Ev.pos (by omega) (Ev.bind I ?_))
        cases hr : ruleHas (L (p ++ (⟨#[36]⟩ : ByteArray))) (L s) with
        | false => exact Ev.neg Bool.false_ne_true (Ev.const rfl)
        | true =>
          refine Ev.pos rfl (Ev.const ?_)
          have := (ruleHas_true hr).2.2
          rw [L_append, show L (⟨#[36]⟩ : ByteArray) = [36] from rfl] at this
          rw [ruleHas_has hok (by omega), has_end he this]

end Go.Proofs.Ytmkncihmgbjgnaa.Pure
