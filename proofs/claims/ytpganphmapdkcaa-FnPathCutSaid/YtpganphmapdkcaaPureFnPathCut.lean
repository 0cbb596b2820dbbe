/- One goes part by part; so one does by drawn ones, cut anywhere. Condition: none. -/
import Derived.Test.YtpganphmapdkcaaPx21
import Derived.Test.YtpganphmapdkcaaPathI
namespace Go.Proofs.Ytpganphmapdkcaa.Pure
open Go Go.RowKit Go.Proofs.Ytpganphmapdkcaa.P Go.Proofs.Ytpganphmapdkcaa.Lib Go.Proofs.Ytpganphmapdkcaa.PathP Go.Proofs.Ytpganphmapdkcaa.PathF Go.Proofs.YtpganphmapdkcaaW.PrintWords Go.Proofs.YtpganphmapdkcaaW.PrintLast
set_option linter.unusedVariables false
set_option linter.unusedSimpArgs false

theorem FnPathCut : laws_FnPathCut.Pure := by
  intro l m hm hb hw hm2 hb2 hw2
  apply Ev.rounds
  unfold laws_FnPathCut.f
  have far : Ev (fun k => laws_FnPathCut.j0 k l m true) true := Ev.step (f := fun _ => some true) (fun k => by simp [laws_FnPathCut.j0]) (Ev.const rfl)
  by_cases h : (l.length : Int) > 1048576
  · exact Ev.pos h far
  refine Ev.neg h ?_
  by_cases h2 : (m.length : Int) > 1048576
  · rw [decide_eq_true h2]; exact far
  rw [decide_eq_false h2]
  obtain ⟨x, hx, hl⟩ := drawn_parts hw
  have hc := clean_len x
  have T := texts_ev (a := clean x) (b := clean x) (by omega)
  rw [decide_eq_true rfl] at T
  have w1 : wrap64 ((x.length : Int) + 1) = (x.length : Int) + 1 := w64 (by omega) (by omega)
  apply Ev.enter
  simp only [laws_FnPathCut.j0, Bool.false_eq_true, if_false]
  refine Ev.bind hx (Ev.bind (PathI.impl_ev (by omega)) (Ev.bind (spec_ev (by omega)) (Ev.bind T (Ev.pos rfl ?_))))
  rw [w1]
  have hmod : 0 ≤ (m.length : Int) % ((x.length : Int) + 1) ∧ (m.length : Int) % ((x.length : Int) + 1) < (x.length : Int) + 1 := ⟨Int.emod_nonneg _ (by omega), Int.emod_lt_of_pos _ (by omega)⟩
  generalize hc' : (m.length : Int) % ((x.length : Int) + 1) = c at hmod
  have ht : (x.take c.toNat).length ≤ 2000000 := by rw [List.length_take]; omega
  have hct := clean_len (x.take c.toNat)
  rw [List.length_take] at hct
  refine Ev.neg (by omega) (Ev.pos hmod.1 (Ev.pos (by omega) (Ev.bind (PathI.impl_ev ht) ?_)))
  refine Ev.bind0 rfl ?_
  refine Ev.pos (by simp; omega) ?_
  refine Ev.bind0 rfl ?_
  refine Ev.bind0 rfl ?_
  refine Ev.pos (by simp; omega) ?_
  rw [List.nil_append]
  have C := PathI.impl_ev (x := clean (x.take c.toNat) ++ x.drop c.toNat) (by rw [List.length_append, List.length_drop]; omega)
  rw [clean_cut, List.take_append_drop] at C
  exact Ev.bind C (Ev.bind T (Ev.const rfl))

end Go.Proofs.Ytpganphmapdkcaa.Pure
