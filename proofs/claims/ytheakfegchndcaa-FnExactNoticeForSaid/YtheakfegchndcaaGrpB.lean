/- Plain words on lists of groups and of rules. (The numbers of the types are this seat's.) Condition: none. -/
-- Cut down by a program of this session (wip/tools/prune.py) to what its claim can name.
import Derived.Test.YtheakfegchndcaaPx0
import Derived.Test.YtheakfegchndcaaLib
namespace Go.Proofs.Ytheakfegchndcaa.NoticeF
open Go Go.RowKit Go.Proofs.Ytheakfegchndcaa.P Go.Proofs.Ytheakfegchndcaa.Lib Go.Proofs.YtheakfegchndcaaW.PrintWords Go.Proofs.YtheakfegchndcaaW.PrintLast
set_option linter.unusedVariables false
set_option linter.unusedSimpArgs false

/-- Not many of each. -/
def Few (g:S30):Prop:=g.f0.length ≤ 2000000 ∧ g.f1.length ≤ 2000000 ∧ ∀ s ∈ g.f0,s.size ≤ 2000000
theorem rd30 {x:List S30} {i:Int} {g:S30} {t:List S30} (h:x.drop i.toNat = g :: t):rd_T30 x i = g:=by
 unfold rd_T30
 have hlt:i.toNat < x.length:=by
  rcases Nat.lt_or_ge i.toNat x.length with h'|h'
  ·exact h'
  ·rw [List.drop_of_length_le h'] at h;cases h
 rw [List.getD_eq_getElem?_getD,List.getElem?_eq_getElem hlt]
 rw [List.drop_eq_getElem_cons hlt] at h
 injection h with h _
end Go.Proofs.Ytheakfegchndcaa.NoticeF
