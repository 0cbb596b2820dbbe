/- If a name is told, only what is told to it counts. Condition: none. -/
-- Cut down by a program of this session (wip/tools/prune.py) to what its claim can name.
import Derived.Test.YtheakfegchndcaaPx0
import Derived.Test.YtheakfegchndcaaPx12
import Derived.Test.YtheakfegchndcaaForL
namespace Go.Proofs.Ytheakfegchndcaa.Pure
open Go hiding stepT
open Go.RowKit Go.Proofs.Ytheakfegchndcaa.P Go.Proofs.Ytheakfegchndcaa.Lib Go.Proofs.Ytheakfegchndcaa.NoticeF Go.Proofs.Ytheakfegchndcaa.NoticeR Go.Proofs.Ytheakfegchndcaa.ForL Go.Proofs.YtheakfegchndcaaW.PrintWords Go.Proofs.YtheakfegchndcaaW.PrintLast
set_option linter.unusedVariables false
set_option linter.unusedSimpArgs false

theorem own_loop (x:List S30) (hx:Tiny x) (a:ByteArray) (d:Nat):∀ (o:List S30) (i:Int),0 ≤ i → i ≤ x.length → (x.length:Int) - i ≤ d → o.length ≤ i → o ++ (x.drop i.toNat).filter (has a) = x.filter (has a) →
  Ev (fun k=>laws_FnForOwn.l0 k x a o i [a] (ans x a).2.1 (ans x a).2.2) true:=by
 have hend:∀ (o:List S30) (i:Int),i = x.length → o ++ (x.drop i.toNat).filter (has a) = x.filter (has a) → Ev (fun k=>laws_FnForOwn.l0 k x a o i [a] (ans x a).2.1 (ans x a).2.2) true:=by
  intro o i hi e
  rw [List.drop_of_length_le (by omega),List.filter_nil,List.append_nil] at e
  subst e
  obtain ⟨h11,h220,h3⟩:=hx
  have T:=texts_self [a] (by show 1 ≤ _;omega)
  by_cases z:((x.filter (has a)).length:Int) = 0
  ·exact Ev.step (fun k=>by rw [laws_FnForOwn.l0,if_neg (by omega)]) (Ev.bind T (Ev.pos rfl (Ev.pos z (Ev.const rfl))))
  have hf:=List.length_filter_le (has a) x
  have ht:=tots_own (has a) x
  have I:=NoticeR.impl_ev (x:=x.filter (has a)) ⟨by omega,by omega,fun g hg=>by have:=h3 g (List.mem_filter.mp hg).1;omega⟩ a
  rw [own_ans x a (by omega)] at I
  have hL:=ans_len x a (by omega)
  have S:=group_self (ans x a) hL.1 hL.2
  exact Ev.step (fun k=>by rw [laws_FnForOwn.l0,if_neg (by omega)]) (Ev.bind T (Ev.pos rfl (Ev.neg z (Ev.bind0 I (Ev.bind S (Ev.const rfl))))))
 induction d with
 | zero=>intro o i h0 h1 hd _ e;exact hend o i (by omega) e
 | succ d ih =>
  intro o i h0 h1 hd ho e
  by_cases hlt:i < (x.length:Int)
  rotate_left
  ·exact hend o i (by omega) e
  have h11:=hx.1
  have h3:=hx.2.2
  obtain ⟨g,q,hr⟩:=drop_lt (l:=x) (i:=i.toNat) (by omega)
  have hg:=h3 g (List.drop_subset i.toNat x (by rw [hr];exact List.mem_cons_self))
  have hnx:x.drop (i + 1).toNat = q:=by rw [show (i + 1).toNat = i.toNat + 1 by omega];exact drop_next' hr
  have hrd:=rd30 hr
  have hw:wrap64 (i + 1) = i + 1:=w64 (by omega) (by omega)
  have H:=has_ev g a (by omega)
  rw [hr] at e
  by_cases c:has a g = true
  ·rw [c] at H
   rw [List.filter_cons_of_pos c] at e
   have J:=ih (o ++ [g]) (i + 1) (by omega) (by omega) (by omega) (by rw [List.length_append];show (o.length + 1:Int) ≤ _;omega) (by rw [hnx,List.append_assoc];exact e)
   exact Ev.step (fun k=>by rw [laws_FnForOwn.l0,if_pos hlt,if_pos h0,hrd,hw]) (Ev.bind H (Ev.pos rfl (Ev.pos (show o.length < 2513169434916 by omega) J)))
  ·have hc:=Bool.eq_false_iff.mpr c
   rw [hc] at H
   rw [List.filter_cons_of_neg c] at e
   have J:=ih o (i + 1) (by omega) (by omega) (by omega) (by omega) (by rw [hnx];exact e)
   exact Ev.step (fun k=>by rw [laws_FnForOwn.l0,if_pos hlt,if_pos h0,hrd,hw]) (Ev.bind H (Ev.neg Bool.false_ne_true J))
theorem FnForOwn:laws_FnForOwn.Pure:=by
 intro l hm hb hw
 apply Ev.rounds
 unfold laws_FnForOwn.f
 by_cases c:(l.length:Int) > 1048576
 ·exact Ev.pos c (Ev.const rfl)
 obtain ⟨x,a,hd,hx,ha⟩:=drawn hw
 have h2:=hx.2.1
 have hL:=ans_len x a (by omega)
 have S:=group_self (ans x a) hL.1 hL.2
 have W:=own_loop x hx a x.length [] 0 (by omega) (by omega) (by omega) (by show ((0:Nat):Int) ≤ 0;omega) rfl
 exact Ev.neg c (Ev.bind hd (Ev.bind0 (NoticeR.impl_ev hx.mild a) (Ev.bind (NoticeR.spec_ev hx.mild a) (Ev.bind S (Ev.pos rfl W)))))

end Go.Proofs.Ytheakfegchndcaa.Pure
