/- A star behind a pattern changes nothing; alone behind a stroke it has all that begins with one. Condition: none. -/
import Derived.Test.YtmkncihmgbjgnaaPx25
import Derived.Test.YtmkncihmgbjgnaaPx3
import Derived.Test.YtmkncihmgbjgnaaPx5
import Derived.Test.YtmkncihmgbjgnaaDrawH
namespace Go.Proofs.Ytmkncihmgbjgnaa.Pure
open Go hiding stepT
open Go.RowKit Go.Proofs.Ytmkncihmgbjgnaa.P Go.Proofs.Ytmkncihmgbjgnaa.Lib Go.Proofs.Ytmkncihmgbjgnaa.CutP Go.Proofs.Ytmkncihmgbjgnaa.MatchP Go.Proofs.Ytmkncihmgbjgnaa.RuleOkF Go.Proofs.Ytmkncihmgbjgnaa.HasI Go.Proofs.Ytmkncihmgbjgnaa.DrawH Go.Proofs.YtmkncihmgbjgnaaW.PrintWords Go.Proofs.YtmkncihmgbjgnaaW.PrintLast
set_option linter.unusedVariables false
set_option linter.unusedSimpArgs false

theorem FnRuleStar_triv (p s : ByteArray) : Ev (fun k => laws_FnRuleStar.j0 k p s (ruleHas (L p) (L s)) true) true :=
  Ev.step (f := fun k => (spec_RuleHas.f k p s).bind fun t => some (ruleHas (L p) (L s) == t)) (fun k => by rw [laws_FnRuleStar.j0, if_pos rfl]) (Ev.bind (HasV.spec_ev p s) (Ev.const (by simp)))

theorem FnRuleStar : laws_FnRuleStar.Pure := by
  intro l hm hb hw
  apply Ev.rounds
  unfold laws_FnRuleStar.f
  by_cases h : (l.length : Int) > 1048576
  · exact Ev.pos h (Ev.const rfl)
  obtain ⟨p, s, hd, hp, hs⟩ := drawn hw
  have hLp := L_length p
  have hLs := L_length s
  have hs60 := hs.1
  refine Ev.neg h (Ev.bind hd (Ev.bind (HasV.impl_ev p s) (Ev.bind (HasV.spec_ev p s) (Ev.neg (by simp) (Ev.bind (RuleOkF.spec_ev p) ?_)))))
  cases hok : ruleOk (L p) with
  | false => exact Ev.neg Bool.false_ne_true (FnRuleStar_triv p s)
  | true =>
    refine Ev.pos rfl (Ev.bind0 (ends_ev p (by omega)) ?_)
    cases he : endsT (L p) with
    | true => exact Ev.pos rfl (FnRuleStar_triv p s)
    | false =>
      refine Ev.neg Bool.false_ne_true ?_
      by_cases h16 : (p.size : Int) ≥ 16
      · rw [decide_eq_true h16]; exact FnRuleStar_triv p s
      · rw [decide_eq_false h16]
        obtain ⟨o1, o2, o3, o4⟩ := ruleOk_parts.mp hok
        have hpat := okTail_last o4 he
        have hok2 : ruleOk (L p ++ [42]) = true := by
          obtain ⟨r, hr⟩ := head_cons o3
          rw [ruleOk_parts]
          refine ⟨by simp, by rw [List.length_append]; simp; omega, by rw [hr]; rfl, okTail_all ?_⟩
          intro x hx
          rcases List.mem_append.mp hx with hx | hx
          · exact hpat x hx
          · rw [List.mem_singleton] at hx; subst hx; rfl
        have e1 : ruleHas (L (p ++ (⟨#[42]⟩ : ByteArray))) (L s) = ruleHas (L p) (L s) := by
          rw [L_append, show L (⟨#[42]⟩ : ByteArray) = [42] from rfl, ruleHas_has hok2 (by omega), ruleHas_has hok (by omega)]
          exact has_star he
        have e2 : ruleHas (L (⟨#[47, 42]⟩ : ByteArray)) (L s) = lpM [47, 42] (L s) := by
          rw [show L (⟨#[47, 42]⟩ : ByteArray) = [47, 42] from rfl, ruleHas_has rfl (by omega), lpM_has (by decide)]
        have I1 := HasV.impl_ev (p ++ (⟨#[42]⟩ : ByteArray)) s
        have I2 := HasV.impl_ev (⟨#[47, 42]⟩ : ByteArray) s
        rw [e1] at I1
        rw [e2] at I2
        refine Ev.step (f := fun k => if p.size + 1 ≤ 9223372036854775807 then ((impl_RuleHas.f k (p ++ (⟨#[42]⟩ : ByteArray)) s).bind fun t492 => (if (t492 == ruleHas (L p) (L s)) = true then ((impl_RuleHas.f k (⟨#[47, 42]⟩ : ByteArray) s).bind fun t493 => (if (s.size : Int) > 0 then (if 0 < (s.size : Int) then (some (t493 == ((bt s 0) == 47))) else (none)) else (some (t493 == false)))) else (some false))) else (none)) (fun k => by rw [laws_FnRuleStar.j0, if_neg Bool.false_ne_true]) (Ev.pos (by omega) (Ev.bind I1 (Ev.pos (by simp) (Ev.bind I2 ?_))))
        cases hc : L s with
        | nil =>
          rw [hc] at hLs
          simp only [List.length_nil] at hLs
          exact Ev.neg (by omega) (Ev.const (by simp [lpM]))
        | cons x t =>
          have hbx : bt s 0 = x := bt_get (by simpa using hc)
          rw [hc] at hLs
          simp only [List.length_cons] at hLs
          refine Ev.pos (by omega) (Ev.pos (by omega) (Ev.const ?_))
          have hst : ∀ t : T, star (fun _ => true) t = true := by
            intro t
            cases t <;> simp [star]
          rw [hbx]
          simp [lpM, hst]

end Go.Proofs.Ytmkncihmgbjgnaa.Pure
