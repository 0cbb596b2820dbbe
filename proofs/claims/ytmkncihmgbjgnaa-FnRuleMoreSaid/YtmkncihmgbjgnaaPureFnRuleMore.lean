/- What has a pattern without an end has it still when more comes. Condition: none. -/
import Derived.Test.YtmkncihmgbjgnaaPx22
import Derived.Test.YtmkncihmgbjgnaaPx3
import Derived.Test.YtmkncihmgbjgnaaPx5
import Derived.Test.YtmkncihmgbjgnaaDrawH
namespace Go.Proofs.Ytmkncihmgbjgnaa.Pure
open Go hiding stepT
open Go.RowKit Go.Proofs.Ytmkncihmgbjgnaa.P Go.Proofs.Ytmkncihmgbjgnaa.Lib Go.Proofs.Ytmkncihmgbjgnaa.CutP Go.Proofs.Ytmkncihmgbjgnaa.MatchP Go.Proofs.Ytmkncihmgbjgnaa.RuleOkF Go.Proofs.Ytmkncihmgbjgnaa.HasI Go.Proofs.Ytmkncihmgbjgnaa.DrawH Go.Proofs.YtmkncihmgbjgnaaW.PrintWords Go.Proofs.YtmkncihmgbjgnaaW.PrintLast
set_option linter.unusedVariables false
set_option linter.unusedSimpArgs false

theorem FnRuleMore_triv (p s : ByteArray) : Ev (fun k => laws_FnRuleMore.j0 k p s (ruleHas (L p) (L s)) true) true :=
  Ev.step (f := fun k => (spec_RuleHas.f k p s).bind fun t => some (ruleHas (L p) (L s) == t)) (fun k => by rw [laws_FnRuleMore.j0, if_pos rfl]) (Ev.bind (HasV.spec_ev p s) (Ev.const (by simp)))

theorem FnRuleMore : laws_FnRuleMore.Pure := by
  intro l hm hb hw
  apply Ev.rounds
  unfold laws_FnRuleMore.f
  by_cases h : (l.length : Int) > 1048576
  · exact Ev.pos h (Ev.const rfl)
  obtain ⟨p, s, hd, hp, hs⟩ := drawn hw
  have hLp := L_length p
  have hLs := L_length s
  have hs60 := hs.1
  refine Ev.neg h (Ev.bind hd (Ev.bind (HasV.impl_ev p s) (Ev.bind (HasV.spec_ev p s) (Ev.neg (by simp) ?_))))
  cases hr : ruleHas (L p) (L s) with
  | false => exact Ev.neg Bool.false_ne_true (hr ▸ FnRuleMore_triv p s)
  | true =>
    have tr := FnRuleMore_triv p s
    rw [hr] at tr
    refine Ev.pos rfl (Ev.bind0 (ends_ev p (by omega)) ?_)
    cases he : endsT (L p) with
    | true => exact Ev.pos rfl tr
    | false =>
      refine Ev.neg Bool.false_ne_true ?_
      by_cases h60 : (s.size : Int) ≥ 60
      · rw [decide_eq_true h60]; exact tr
      · rw [decide_eq_false h60]
        have I := HasV.impl_ev p (s ++ (⟨#[120]⟩ : ByteArray))
        obtain ⟨r1, r2, r3⟩ := ruleHas_true hr
        have e : ruleHas (L p) (L (s ++ (⟨#[120]⟩ : ByteArray))) = true := by
          rw [L_append, show L (⟨#[120]⟩ : ByteArray) = [120] from rfl, ruleHas_has r1 (by rw [List.length_append]; simp; omega)]
          exact has_more he r3 _
        rw [e] at I
        exact Ev.step (f := fun k => if s.size + 1 ≤ 9223372036854775807 then ((impl_RuleHas.f k p (s ++ (⟨#[120]⟩ : ByteArray))).bind fun t466 => (some t466)) else (none)) (fun k => by rw [laws_FnRuleMore.j0, if_neg Bool.false_ne_true]) (Ev.pos (by omega) (Ev.bind I (Ev.const rfl)))

end Go.Proofs.Ytmkncihmgbjgnaa.Pure
