/- Program and reference tell the same of all groups; the groups stay as they are. Condition: none. -/
import Derived.Test.YtheakfegchndcaaPx0
import Derived.Test.YtheakfegchndcaaPx17
import Derived.Test.YtheakfegchndcaaHelpG
namespace Go.Proofs.Ytheakfegchndcaa.Pure
open Go hiding stepT
open Go.RowKit Go.Proofs.Ytheakfegchndcaa.P Go.Proofs.Ytheakfegchndcaa.Lib Go.Proofs.Ytheakfegchndcaa.NoticeF Go.Proofs.Ytheakfegchndcaa.HelpG Go.Proofs.YtheakfegchndcaaW.PrintWords Go.Proofs.YtheakfegchndcaaW.PrintLast
set_option linter.unusedVariables false
set_option linter.unusedSimpArgs false

theorem FnExactNoticeOk : ∀ (l0 : List S65), l0.length ≤ maxLen → (∀ x ∈ l0, (x.f0.length ≤ maxLen ∧ ∀ y ∈ x.f0, y.size ≤ maxLen) ∧ (x.f1.length ≤ maxLen ∧ ∀ y ∈ x.f1, True ∧ y.f1.size ≤ maxLen) ∧ (Lit.int .i64 x.f2).wf = true) → ∃ k, laws_FnExactNoticeOk.f k l0 = some true := by
  intro l hm hs
  apply Ev.rounds
  unfold laws_FnExactNoticeOk.f
  obtain ⟨r, hr, hb⟩ := HelpG.sz_ev hm hs
  refine Ev.bind hr ?_
  by_cases h : r < 0
  · exact Ev.pos h (Ev.const rfl)
  obtain ⟨hl, hf⟩ := hb h
  obtain ⟨f1, f2⟩ := few_to hf
  have hml : (l.map toG).length ≤ 1048576 := by rw [List.length_map]; exact hl
  have T := HelpG.to_ev hl hf
  exact Ev.neg h (Ev.bind T (Ev.bind (NoticeF.spec_ev (by omega) f1) (Ev.bind T (Ev.bind (NoticeF.impl_ev (by omega) f1) (Ev.neg (by simp) (Ev.bind T (Ev.bind (HelpG.eq_ev hml f2) (Ev.pos rfl (Ev.const rfl)))))))))

end Go.Proofs.Ytheakfegchndcaa.Pure
