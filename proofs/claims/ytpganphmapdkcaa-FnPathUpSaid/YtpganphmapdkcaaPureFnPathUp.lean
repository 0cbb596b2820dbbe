/- A step in, and up, leads nowhere; so it does behind drawn parts. Condition: none. -/
import Derived.Test.YtpganphmapdkcaaPx22
import Derived.Test.YtpganphmapdkcaaPathI
namespace Go.Proofs.Ytpganphmapdkcaa.Pure
open Go Go.RowKit Go.Proofs.Ytpganphmapdkcaa.P Go.Proofs.Ytpganphmapdkcaa.Lib Go.Proofs.Ytpganphmapdkcaa.PathP Go.Proofs.Ytpganphmapdkcaa.PathF Go.Proofs.YtpganphmapdkcaaW.PrintWords Go.Proofs.YtpganphmapdkcaaW.PrintLast
set_option linter.unusedVariables false
set_option linter.unusedSimpArgs false

theorem clean_up (x : List ByteArray) : clean (x ++ [(⟨#[113]⟩ : ByteArray), (⟨#[46, 46]⟩ : ByteArray)]) = clean x := by
  have h1 : PathP.Way (⟨#[113]⟩ : ByteArray) := ⟨by unfold Idle; decide, by unfold Up; decide⟩
  rw [clean_append]
  simp only [List.foldl_cons, List.foldl_nil]
  rw [stepP_way h1, stepP_up (p := (⟨#[46, 46]⟩ : ByteArray)) rfl, List.dropLast_concat]
theorem clean_idle (x : List ByteArray) : clean (x ++ [(⟨#[46]⟩ : ByteArray), (⟨#[]⟩ : ByteArray)]) = clean x := by
  rw [clean_append]
  simp only [List.foldl_cons, List.foldl_nil]
  rw [stepP_idle (p := (⟨#[46]⟩ : ByteArray)) (.inr rfl), stepP_idle (p := (⟨#[]⟩ : ByteArray)) (.inl rfl)]
theorem clean_out (x : List ByteArray) : clean (x ++ [(⟨#[46, 46]⟩ : ByteArray)]) = (clean x).dropLast := by
  rw [clean_append]
  simp only [List.foldl_cons, List.foldl_nil]
  rw [stepP_up (p := (⟨#[46, 46]⟩ : ByteArray)) rfl]

theorem FnPathUp : laws_FnPathUp.Pure := by
  intro l hm hb hw
  apply Ev.rounds
  unfold laws_FnPathUp.f
  by_cases h : (l.length : Int) > 1048576
  · exact Ev.pos h (Ev.const rfl)
  obtain ⟨x, hx, hl⟩ := drawn_parts hw
  have hc := clean_len x
  have T := texts_ev (a := clean x) (b := clean x) (by omega)
  rw [decide_eq_true rfl] at T
  have T2 := texts_ev (a := (clean x).dropLast) (b := (clean x).dropLast) (by rw [List.length_dropLast]; omega)
  rw [decide_eq_true rfl] at T2
  have A := PathI.impl_ev (x := x ++ [(⟨#[113]⟩ : ByteArray), (⟨#[46, 46]⟩ : ByteArray)]) (by simp; omega)
  have B := PathI.impl_ev (x := x ++ [(⟨#[46]⟩ : ByteArray), (⟨#[]⟩ : ByteArray)]) (by simp; omega)
  have C := PathI.impl_ev (x := x ++ [(⟨#[46, 46]⟩ : ByteArray)]) (by simp; omega)
  rw [clean_up] at A
  rw [clean_idle] at B
  rw [clean_out] at C
  refine Ev.neg h (Ev.bind hx (Ev.bind (PathI.impl_ev (by omega)) (Ev.bind (spec_ev (by omega)) (Ev.bind T (Ev.pos rfl ?_)))))
  refine Ev.bind0 rfl ?_
  refine Ev.pos (by simp; omega) ?_
  refine Ev.bind0 rfl ?_
  refine Ev.bind0 rfl ?_
  refine Ev.pos (by simp; omega) ?_
  rw [List.nil_append]
  refine Ev.bind A ?_
  refine Ev.bind0 rfl ?_
  refine Ev.pos (by simp; omega) ?_
  refine Ev.bind0 rfl ?_
  refine Ev.bind0 rfl ?_
  refine Ev.pos (by simp; omega) ?_
  rw [List.nil_append]
  refine Ev.bind B ?_
  refine Ev.bind0 rfl ?_
  refine Ev.pos (by simp; omega) ?_
  refine Ev.bind0 rfl ?_
  refine Ev.pos (by simp; omega) ?_
  rw [List.nil_append]
  refine Ev.bind C (Ev.bind T (Ev.pos rfl (Ev.bind T (Ev.pos rfl ?_))))
  rw [mx_last _ (by omega)]
  refine Ev.pos (by omega) (Ev.pos (by omega) ?_)
  rw [Int.toNat_natCast, ← List.dropLast_eq_take]
  exact Ev.bind T2 (Ev.const rfl)

end Go.Proofs.Ytpganphmapdkcaa.Pure
