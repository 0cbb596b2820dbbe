/- A way has a pattern just if it is told so byte by byte. Condition: none. -/
import Derived.Test.YtmkncihmgbjgnaaPx21
import Derived.Test.YtmkncihmgbjgnaaPx3
import Derived.Test.YtmkncihmgbjgnaaDrawH
namespace Go.Proofs.Ytmkncihmgbjgnaa.Pure
open Go hiding stepT
open Go.RowKit Go.Proofs.Ytmkncihmgbjgnaa.P Go.Proofs.Ytmkncihmgbjgnaa.Lib Go.Proofs.Ytmkncihmgbjgnaa.CutP Go.Proofs.Ytmkncihmgbjgnaa.MatchP Go.Proofs.Ytmkncihmgbjgnaa.RuleOkF Go.Proofs.Ytmkncihmgbjgnaa.HasI Go.Proofs.Ytmkncihmgbjgnaa.DrawH Go.Proofs.YtmkncihmgbjgnaaW.PrintWords Go.Proofs.YtmkncihmgbjgnaaW.PrintLast
set_option linter.unusedVariables false
set_option linter.unusedSimpArgs false

theorem match_ev (d : Nat) : ∀ (p s : ByteArray), p.size + s.size ≤ d → Ev (fun k => laws_lpMatch.f k p s) (lpM (L p) (L s)) := by
  have one : ∀ (x : ByteArray) (c : Int) (r : T), L x = c :: r → 1 ≤ x.size ∧ bt x 0 = c ∧ L (x.extract 1 x.size) = r ∧ (x.extract 1 x.size).size + 1 = x.size := by
    intro x c r hx
    have hL := L_length x
    have hs : 1 ≤ x.size := by rw [← hL, hx]; simp
    refine ⟨hs, bt_get (by simpa using hx), ?_, by rw [ByteArray.size_extract]; omega⟩
    rw [L_extract, ← hL, List.take_length, hx]; rfl
  have step : ∀ (p s : ByteArray) (k : Nat), laws_lpMatch.f (k + 1) p s = if p.toList = ([] : List UInt8) then (some true) else (if p.toList = ([36] : List UInt8) then (some (s.toList == ([] : List UInt8))) else (if 0 < (p.size : Int) then (if (bt p 0) = 42 then (if 1 ≤ (p.size : Int) then ((laws_lpMatch.f k (p.extract 1 p.size) s).bind fun t450 => (if t450 = true then (some true) else (if s.toList = ([] : List UInt8) then (some false) else (if 1 ≤ (s.size : Int) then ((laws_lpMatch.f k p (s.extract 1 s.size)).bind fun t451 => (some t451)) else (none))))) else (none)) else (if s.toList = ([] : List UInt8) then (some false) else (if 0 < (s.size : Int) then (if (bt s 0) = (bt p 0) then (if 1 ≤ (p.size : Int) then (if 1 ≤ (s.size : Int) then ((laws_lpMatch.f k (p.extract 1 p.size) (s.extract 1 s.size)).bind fun t452 => (some t452)) else (none)) else (none)) else (some false)) else (none)))) else (none))) := by
    intro p s k; rw [laws_lpMatch.f]
  have e36 : ∀ x : ByteArray, x.toList = ([36] : List UInt8) ↔ L x = [36] := fun x => toList_lit x _
  induction d with
  | zero =>
    intro p s hd
    have hp : L p = [] := List.eq_nil_of_length_eq_zero (by rw [L_length]; omega)
    rw [hp]
    exact Ev.step (step p s) (Ev.pos ((toList_nil p).mpr hp) (Ev.const rfl))
  | succ d ih =>
    intro p s hd
    refine Ev.step (step p s) ?_
    cases hp : L p with
    | nil => exact Ev.pos ((toList_nil p).mpr hp) (Ev.const rfl)
    | cons c r =>
      obtain ⟨p1, p2, p3, p4⟩ := one p c r hp
      refine Ev.neg (fun h => by rw [(toList_nil p).mp h] at hp; cases hp) ?_
      by_cases h36 : c = 36 ∧ r = []
      · refine Ev.pos ((e36 p).mpr (by rw [hp, h36.1, h36.2])) (Ev.const ?_)
        simp only [lpM]
        rw [if_pos h36]
        congr 1
        rw [Bool.eq_iff_iff]; simp [toList_nil]
      refine Ev.neg (fun h => h36 (by have := (e36 p).mp h; rw [hp] at this; injection this with a b; exact ⟨a, b⟩)) (Ev.pos (by omega) ?_)
      simp only [lpM]
      rw [if_neg h36]
      have A := ih (p.extract 1 p.size) s (by omega)
      rw [p3] at A
      by_cases h42 : c = 42
      · rw [if_pos h42]
        refine Ev.pos (by rw [p2]; exact h42) (Ev.pos (by omega) ?_)
        cases hs : L s with
        | nil =>
          rw [hs] at A
          simp only [star]
          refine Ev.bind A ?_
          cases lpM r [] with
          | true => exact Ev.pos rfl (Ev.const rfl)
          | false => exact Ev.neg Bool.false_ne_true (Ev.pos ((toList_nil s).mpr hs) (Ev.const rfl))
        | cons x t =>
          obtain ⟨s1, s2, s3, s4⟩ := one s x t hs
          rw [hs] at A
          have B := ih p (s.extract 1 s.size) (by omega)
          rw [hp, s3] at B
          have e : lpM (c :: r) t = star (lpM r) t := by
            simp only [lpM]; rw [if_neg h36, if_pos h42]
          rw [e] at B
          simp only [star]
          refine Ev.bind A ?_
          cases lpM r (x :: t) with
          | true => rw [Bool.true_or]; exact Ev.pos rfl (Ev.const rfl)
          | false =>
            rw [Bool.false_or]
            exact Ev.neg Bool.false_ne_true (Ev.neg (fun h => by rw [(toList_nil s).mp h] at hs; cases hs) (Ev.pos (by omega) (Ev.bind B (Ev.const rfl))))
      · rw [if_neg h42]
        refine Ev.neg (by rw [p2]; exact h42) ?_
        cases hs : L s with
        | nil => exact Ev.pos ((toList_nil s).mpr hs) (Ev.const rfl)
        | cons x t =>
          obtain ⟨s1, s2, s3, s4⟩ := one s x t hs
          have B := ih (p.extract 1 p.size) (s.extract 1 s.size) (by omega)
          rw [p3, s3] at B
          refine Ev.neg (fun h => by rw [(toList_nil s).mp h] at hs; cases hs) (Ev.pos (by omega) ?_)
          by_cases hx : x = c
          · refine Ev.pos (by rw [p2, s2]; exact hx) (Ev.pos (by omega) (Ev.pos (by omega) (Ev.bind B (Ev.const ?_))))
            simp [hx]
          · refine Ev.neg (by rw [p2, s2]; exact hx) (Ev.const ?_)
            simp [hx]

theorem FnRuleHas_triv (p s : ByteArray) : Ev (fun k => laws_FnRuleHas.j0 k p s (ruleHas (L p) (L s)) true) true :=
  Ev.step (f := fun k => (spec_RuleHas.f k p s).bind fun t => some (ruleHas (L p) (L s) == t)) (fun k => by rw [laws_FnRuleHas.j0, if_pos rfl]) (Ev.bind (HasV.spec_ev p s) (Ev.const (by simp)))

theorem FnRuleHas : laws_FnRuleHas.Pure := by
  intro l hm hb hw
  apply Ev.rounds
  unfold laws_FnRuleHas.f
  by_cases h : (l.length : Int) > 1048576
  · exact Ev.pos h (Ev.const rfl)
  obtain ⟨p, s, hd, hp, hs⟩ := drawn hw
  refine Ev.neg h (Ev.bind hd (Ev.bind (HasV.impl_ev p s) (Ev.bind (HasV.spec_ev p s) (Ev.neg (by simp) (Ev.bind (RuleOkF.spec_ev p) ?_)))))
  cases hok : ruleOk (L p) with
  | false => exact Ev.neg Bool.false_ne_true (FnRuleHas_triv p s)
  | true =>
    refine Ev.pos rfl ?_
    have h60 : ¬ ((s.size : Int) > 60) := by have := hs.1; omega
    have e : decide ((s.size : Int) > 60) = false := decide_eq_false h60
    simp only [e]
    refine Ev.step (f := fun k => (laws_lpMatch.f k p s).bind fun t => some (ruleHas (L p) (L s) == t)) (fun k => by rw [laws_FnRuleHas.j0, if_neg Bool.false_ne_true]) (Ev.bind (match_ev _ p s (Nat.le_refl _)) (Ev.const ?_))
    rw [lpM_has (body_no hok), ruleHas_has hok (by rw [L_length]; omega)]; simp

end Go.Proofs.Ytmkncihmgbjgnaa.Pure
