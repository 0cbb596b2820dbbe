/- What RuleHas of the program and of the reference answer: one and the same function of the bytes. Condition: none. -/
import Derived.Test.YtmkncihmgbjgnaaPx3
import Derived.Test.YtmkncihmgbjgnaaPx4
import Derived.Test.YtmkncihmgbjgnaaPx5
import Derived.Test.YtmkncihmgbjgnaaHasI
namespace Go.Proofs.Ytmkncihmgbjgnaa.HasV
open Go Go.RowKit Go.Proofs.Ytmkncihmgbjgnaa.P Go.Proofs.Ytmkncihmgbjgnaa.Lib Go.Proofs.Ytmkncihmgbjgnaa.EscP Go.Proofs.Ytmkncihmgbjgnaa.CutP Go.Proofs.Ytmkncihmgbjgnaa.MatchP Go.Proofs.Ytmkncihmgbjgnaa.FindF Go.Proofs.Ytmkncihmgbjgnaa.RuleOkF Go.Proofs.Ytmkncihmgbjgnaa.HasI Go.Proofs.YtmkncihmgbjgnaaW.PrintWords Go.Proofs.YtmkncihmgbjgnaaW.PrintLast
set_option linter.unusedVariables false
set_option linter.unusedSimpArgs false

theorem j0_far (k : Nat) (p s : ByteArray) : impl_RuleHas.j0 (k + 1) p s true = some false := by
  rw [impl_RuleHas.j0, if_pos rfl]
theorem set_zero (l : List Bool) : l.set (Int.toNat 0) true = l.set 0 true := by rw [Int.toNat_zero]
theorem j0_near {k : Nat} {p s t : ByteArray} {e : Bool} {n : Nat} (ht : strings_CutSuffix.f p (⟨#[36]⟩ : ByteArray) = some (t, e)) (hw : wrap64 ((s.size : Int) + 1) = (n : Int)) (h0 : 0 < n) (h1 : n ≤ 281474976710656) :
    impl_RuleHas.j0 (k + 1) p s false = impl_RuleHas.l0 k s t e ((List.replicate n false).set 0 true) 0 := by
  have g0 : 0 ≤ (n : Int) := by omega
  have g1 : ((n : Int)).toNat = n := Int.toNat_natCast n
  have g2 : (0 : Int) < (((List.replicate n false).length : Nat) : Int) := by rw [List.length_replicate]; omega
  rw [impl_RuleHas.j0, if_neg Bool.false_ne_true, ht, Option.bind_some]
  simp only []
  rw [hw, if_pos g0, g1, if_pos h1, Option.bind_some, if_pos g2, set_zero]

theorem impl_ev (p s : ByteArray) : Ev (fun k => impl_RuleHas.f k p s) (ruleHas (L p) (L s)) := by
  have hL := L_length s
  have far : Ev (fun k => impl_RuleHas.j0 k p s true) false := Ev.step (f := fun _ => some false) (fun k => j0_far k p s) (Ev.const rfl)
  unfold impl_RuleHas.f ruleHas
  refine Ev.bind (RuleOkF.impl_ev p) ?_
  cases hok : ruleOk (L p) with
  | false =>
    rw [Bool.false_and, Bool.false_and]
    exact Ev.neg Bool.false_ne_true far
  | true =>
    refine Ev.pos rfl ?_
    have hlen := ruleOk_len hok
    rw [L_length] at hlen
    by_cases hs : (s.size : Int) > 60
    · rw [decide_eq_true hs, decide_eq_false (by omega)]
      exact far
    · rw [decide_eq_false hs, decide_eq_true (show (L s).length ≤ 60 by omega), Bool.true_and, Bool.true_and]
      obtain ⟨t, ht, hLt, hts⟩ := cut_end p (by omega)
      have O := outer s t (endsT (L p)) (by omega) (by omega) t.size 0 (by omega) (by omega)
      rw [List.take_zero, comes_nil, hLt, hL] at O
      have hw : wrap64 ((s.size : Int) + 1) = ((s.size + 1 : Nat) : Int) := w_next (by omega)
      unfold has
      exact Ev.step (fun k => j0_near ht hw (by omega) (by omega)) O

theorem spec_ev (p s : ByteArray) : Ev (fun k => spec_RuleHas.f k p s) (ruleHas (L p) (L s)) := by
  have hL := L_length s
  unfold spec_RuleHas.f ruleHas
  refine Ev.bind (RuleOkF.spec_ev p) ?_
  cases hok : ruleOk (L p) with
  | false => exact Ev.neg (by simp) (Ev.const (by simp))
  | true =>
    refine Ev.pos rfl ?_
    have hlen := ruleOk_len hok
    rw [L_length] at hlen
    by_cases hs : (s.size : Int) ≤ 60
    · refine Ev.pos hs (Ev.bind (spec_has p s hlen.1 hlen.2 (by omega)) (Ev.const ?_))
      rw [decide_eq_true (show (L s).length ≤ 60 by omega)]; simp
    · refine Ev.neg hs (Ev.const ?_)
      rw [decide_eq_false (show ¬ (L s).length ≤ 60 by omega)]; simp

end Go.Proofs.Ytmkncihmgbjgnaa.HasV
