/- Program and reference say the same to a name; the groups stay, and what is handed back is new. Condition: none. -/
-- Cut down by a program of this session (wip/tools/prune.py) to what its claim can name.
import Derived.Test.YtheakfegchndcaaPx0
import Derived.Test.YtheakfegchndcaaPx2
import Derived.Test.YtheakfegchndcaaNoticeR
import Derived.Test.YtheakfegchndcaaHelpN
import Derived.Test.YtheakfegchndcaaMarkR
namespace Go.Proofs.Ytheakfegchndcaa.Pure
open Go hiding stepT
open Go.RowKit Go.Proofs.Ytheakfegchndcaa.P Go.Proofs.Ytheakfegchndcaa.Lib Go.Proofs.Ytheakfegchndcaa.NoticeF Go.Proofs.Ytheakfegchndcaa.NoticeR Go.Proofs.Ytheakfegchndcaa.HelpR Go.Proofs.Ytheakfegchndcaa.HelpG Go.Proofs.Ytheakfegchndcaa.HelpN Go.Proofs.YtheakfegchndcaaW.PrintWords Go.Proofs.YtheakfegchndcaaW.PrintLast
set_option linter.unusedVariables false
set_option linter.unusedSimpArgs false

theorem tots_to (l:List S65):tots (l.map toG) ≤ wts l:=by
 induction l with
 | nil=>exact Nat.le_refl 0
 | cons g t ih =>
  show (g.f1.map toR).length + tots (t.map toG) ≤ g.f0.length + g.f1.length + wts t
  rw [List.length_map];omega
theorem sum_to (l:List S65):((l.map toG).map fun g=>g.f0.length + 2 * g.f1.length + 1).sum ≤ 2 * wts l + l.length:=by
 induction l with
 | nil=>exact Nat.le_refl 0
 | cons g t ih =>
  rw [List.map_cons,List.map_cons,List.sum_cons]
  have e:wts (g :: t) = g.f0.length + g.f1.length + wts t:=rfl
  have e1:(toG g).f0.length = g.f0.length:=rfl
  have e2:(toG g).f1.length = g.f1.length:=List.length_map toR
  have e3:(g :: t).length = t.length + 1:=rfl
  omega
theorem FnExactNoticeFor:∀ (l0:List S65) (a1:ByteArray),l0.length ≤ maxLen → (∀ x ∈ l0,(x.f0.length ≤ maxLen ∧ ∀ y ∈ x.f0,y.size ≤ maxLen) ∧ (x.f1.length ≤ maxLen ∧ ∀ y ∈ x.f1,True ∧ y.f1.size ≤ maxLen) ∧ (Lit.int .i64 x.f2).wf = true) → a1.size ≤ 140737488351232 → ∃ k,laws_FnExactNoticeFor.f k l0 a1 = some true:=by
 intro l a hm hs ha
 apply Ev.rounds
 unfold laws_FnExactNoticeFor.f
 by_cases c:(a.size:Int) > 1048576
 ·exact Ev.pos c (Ev.const rfl)
 obtain ⟨r,hr,hb⟩:=HelpG.sz_ev hm hs
 obtain ⟨r',hr',hb'⟩:=HelpN.sz_all hm hs
 obtain rfl:=Ev.det hr hr'
 refine Ev.neg c (Ev.bind hr ?_)
 by_cases h:r < 0
 ·exact Ev.pos h (Ev.const rfl)
 obtain ⟨hl,hf⟩:=hb h
 obtain ⟨hr0,hw⟩:=hb' h
 obtain ⟨f1,f2⟩:=few_to hf
 have hml:(l.map toG).length ≤ 1048576:=by rw [List.length_map];exact hl
 have T:=HelpG.to_ev hl hf
 have t1:=tots_to l
 have t2:=sum_to l
 obtain ⟨x,hx⟩:∃ x,l.map toG = x:=⟨_,rfl⟩
 rw [hx] at f1 f2 hml T t1 t2
 have hM:Mild x:=⟨by omega,by omega,fun g hg=>(f1 g hg).1⟩
 have hR:=rules_le (asked x a) x
 have E:=HelpG.eq_one (g:=(⟨(ans x a).1,(ans x a).2.1,(ans x a).2.2⟩:S30)) (by show 1 ≤ _;omega) (by show (rules (asked x a) x).length ≤ _;omega)
 have EG:=HelpG.eq_ev hml f2
 obtain ⟨n,hn,n0⟩:=MarkR.groups_ev x 1 (by omega) (fun g hg=>⟨(f1 g hg).1,(f1 g hg).2.1⟩) (by omega)
 obtain ⟨l',s',u,hk,hh,u0⟩:=MarkR.group_ev (l:=(ans x a).1) (s:=(ans x a).2.1) (m:=(ans x a).2.2) (by show 1 ≤ _;omega) (by show (rules (asked x a) x).length ≤ _;omega)
 exact Ev.neg h (Ev.bind T (Ev.bind (NoticeR.spec_ev hM a) (Ev.bind0 (NoticeR.impl_ev hM a) (Ev.bind E (Ev.pos rfl (Ev.bind EG (Ev.pos rfl (Ev.bind hn (Ev.neg n0 (Ev.bind hk (Ev.bind hh (Ev.neg u0 (Ev.pos rfl (Ev.const rfl))))))))))))))

end Go.Proofs.Ytheakfegchndcaa.Pure
