/- Groups for other names say nothing to a name. Condition: none. -/
-- Cut down by a program of this session (wip/tools/prune.py) to what its claim can name.
import Derived.Test.YtheakfegchndcaaPx0
import Derived.Test.YtheakfegchndcaaPx11
import Derived.Test.YtheakfegchndcaaForL
namespace Go.Proofs.Ytheakfegchndcaa.Pure
open Go hiding stepT
open Go.RowKit Go.Proofs.Ytheakfegchndcaa.P Go.Proofs.Ytheakfegchndcaa.Lib Go.Proofs.Ytheakfegchndcaa.NoticeF Go.Proofs.Ytheakfegchndcaa.NoticeR Go.Proofs.Ytheakfegchndcaa.ForL Go.Proofs.YtheakfegchndcaaW.PrintWords Go.Proofs.YtheakfegchndcaaW.PrintLast
set_option linter.unusedVariables false
set_option linter.unusedSimpArgs false

theorem FnForNone:laws_FnForNone.Pure:=by
 intro l hm hb hw
 apply Ev.rounds
 unfold laws_FnForNone.f
 by_cases c:(l.length:Int) > 1048576
 ·exact Ev.pos c (Ev.const rfl)
 obtain ⟨x,a,hd,hx,ha⟩:=drawn hw
 have hz:Mild (([(⟨[(⟨#[122,122,122]⟩:ByteArray)],[],9⟩:S30)]:List S30) ++ x):=by
  obtain ⟨h1,h2,h3⟩:=hx
  refine ⟨by rw [List.length_append];show 1 + x.length ≤ _;omega,by rw [tots_append];show 0 + tots x ≤ _;omega,?_⟩
  intro g hg
  rcases List.mem_append.mp hg with h|h
  ·rw [List.mem_singleton.mp h];decide
  ·have:=h3 g h;omega
 have far:=far_ans x (⟨[(⟨#[122,122,122]⟩:ByteArray)],[],9⟩:S30) a (has_size (by rw [ha];decide)) (has_size (by decide))
 have I:=NoticeR.impl_ev hz a
 rw [List.singleton_append,far] at I
 have E0:Mild ([]:List S30):=⟨by decide,by decide,fun g hg=>by cases hg⟩
 have hL:=ans_len x a (by have:=hx.2.1;omega)
 have S:=group_self (ans x a) hL.1 hL.2
 have hlim:[(⟨[(⟨#[122,122,122]⟩:ByteArray)],[],9⟩:S30)].length + x.length < 2513169434916:=by have:=hx.1;show 1 + x.length < _;omega
 exact Ev.neg c (Ev.bind hd (Ev.bind0 (NoticeR.impl_ev hx.mild a) (Ev.bind (NoticeR.spec_ev hx.mild a) (Ev.bind S (Ev.pos rfl (Ev.bind0 (NoticeR.impl_ev E0 a) (Ev.bind0 rfl (Ev.pos hlim (Ev.bind0 I (Ev.pos rfl (Ev.pos rfl (Ev.bind S (Ev.const rfl)))))))))))))

end Go.Proofs.Ytheakfegchndcaa.Pure
