/- What is said twice counts twice, and one waits no longer. Condition: none. -/
-- Cut down by a program of this session (wip/tools/prune.py) to what its claim can name.
import Derived.Test.YtheakfegchndcaaPx0
import Derived.Test.YtheakfegchndcaaPx13
import Derived.Test.YtheakfegchndcaaPx6
import Derived.Test.YtheakfegchndcaaForL
namespace Go.Proofs.Ytheakfegchndcaa.Pure
open Go hiding stepT
open Go.RowKit Go.Proofs.Ytheakfegchndcaa.P Go.Proofs.Ytheakfegchndcaa.Lib Go.Proofs.Ytheakfegchndcaa.NoticeF Go.Proofs.Ytheakfegchndcaa.NoticeR Go.Proofs.Ytheakfegchndcaa.ForL Go.Proofs.YtheakfegchndcaaW.PrintWords Go.Proofs.YtheakfegchndcaaW.PrintLast
set_option linter.unusedVariables false
set_option linter.unusedSimpArgs false

theorem FnForTwo:laws_FnForTwo.Pure:=by
 intro l hm hb hw
 apply Ev.rounds
 unfold laws_FnForTwo.f
 by_cases c:(l.length:Int) > 1048576
 ·exact Ev.pos c (Ev.const rfl)
 obtain ⟨x,a,hd,hx,ha⟩:=drawn hw
 obtain ⟨h1,h2,h3⟩:=hx
 have hx:Tiny x:=⟨h1,h2,h3⟩
 have hz:Mild (x ++ x):=by
  refine ⟨by rw [List.length_append];omega,by rw [tots_append];omega,?_⟩
  intro g hg
  rcases List.mem_append.mp hg with h|h
  ·have:=h3 g h;omega
  ·have:=h3 g h;omega
 have I:=NoticeR.impl_ev hz a
 rw [two_ans] at I
 have hL:=ans_len x a (by omega)
 have S:=group_self (ans x a) hL.1 hL.2
 have hr:=rules_le (asked x a) x
 obtain ⟨rs,hrs⟩:∃ rs,rules (asked x a) x = rs:=⟨_,rfl⟩
 rw [hrs] at I hr
 have ea:ans x a = ([a],rs,wait (asked x a) x 0):=by unfold ans;rw [hrs]
 have J:=NoticeR.impl_ev hx.mild a
 have K:=NoticeR.spec_ev hx.mild a
 rw [ea] at J K S
 have R:=rules_self rs (by omega)
 have w:wrap64 (2 * (rs.length:Int)) = 2 * rs.length:=w64 (by omega) (by omega)
 have e1:((rs ++ rs).length:Int) = wrap64 (2 * (rs.length:Int)):=by rw [w,List.length_append];omega
 have e2:(rs.length:Int) ≤ ((rs ++ rs).length:Int):=by rw [List.length_append];omega
 have R1:Ev (fun k=>laws_lpRules.f k ((rs ++ rs).take ((rs.length:Int)).toNat) rs) true:=by
  rw [Int.toNat_natCast,List.take_left];exact R
 have R2:Ev (fun k=>laws_lpRules.f k ((rs ++ rs).drop ((rs.length:Int)).toNat) rs) true:=by
  rw [Int.toNat_natCast,List.drop_left];exact R
 have l1:([]:List S30).length + x.length < 2513169434916:=by show 0 + x.length < _;omega
 have l2:x.length + x.length < 2513169434916:=by omega
 exact Ev.neg c (Ev.bind hd (Ev.bind0 J (Ev.bind K (Ev.bind S (Ev.pos rfl (Ev.bind0 (a:=[]) rfl (Ev.pos l1 (Ev.bind0 (a:=x) rfl (Ev.pos l2 (Ev.bind0 I (Ev.pos rfl (Ev.pos e1 (Ev.pos (Int.natCast_nonneg _) (Ev.pos e2 (Ev.bind R1 (Ev.pos rfl (Ev.bind R2 (Ev.const rfl))))))))))))))))))

end Go.Proofs.Ytheakfegchndcaa.Pure
