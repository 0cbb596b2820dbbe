/- All that is said to a name, or to each, is said: the rules one behind the other, the longest wait. Condition: none. -/
-- Cut down by a program of this session (wip/tools/prune.py) to what its claim can name.
import Derived.Test.YtheakfegchndcaaPx0
import Derived.Test.YtheakfegchndcaaPx10
import Derived.Test.YtheakfegchndcaaForL
namespace Go.Proofs.Ytheakfegchndcaa.Pure
open Go hiding stepT
open Go.RowKit Go.Proofs.Ytheakfegchndcaa.P Go.Proofs.Ytheakfegchndcaa.Lib Go.Proofs.Ytheakfegchndcaa.NoticeF Go.Proofs.Ytheakfegchndcaa.NoticeR Go.Proofs.Ytheakfegchndcaa.ForL Go.Proofs.YtheakfegchndcaaW.PrintWords Go.Proofs.YtheakfegchndcaaW.PrintLast
set_option linter.unusedVariables false
set_option linter.unusedSimpArgs false

theorem sum_loop (x:List S30) (hx:Tiny x) (s:ByteArray) (n:List ByteArray) (G:List S57) (M:Int) (hG:G.length ≤ 20000000) (d:Nat):∀ (rs:List S57) (m i:Int),0 ≤ i → i ≤ x.length → (x.length:Int) - i ≤ d →
  rs.length + tots (x.drop i.toNat) ≤ 20000000 → G = rs ++ rules s (x.drop i.toNat) → M = wait s (x.drop i.toNat) m → Ev (fun k=>laws_FnForAll.l1 k x s rs m i n G M) true:=by
 have hend:∀ (rs:List S57) (m i:Int),i = x.length → G = rs ++ rules s (x.drop i.toNat) → M = wait s (x.drop i.toNat) m → Ev (fun k=>laws_FnForAll.l1 k x s rs m i n G M) true:=by
  intro rs m i hi e1 e2
  rw [List.drop_of_length_le (by omega)] at e1 e2
  have e1:G = rs:=by rw [e1];exact List.append_nil _
  have e2:M = m:=e2
  rw [← e1,← e2]
  exact Ev.step (fun k=>by rw [laws_FnForAll.l1,if_neg (by omega)]) (Ev.bind (rules_self G hG) (Ev.pos rfl (Ev.const (show some (M == M) = some true by rw [beq_self_eq_true]))))
 induction d with
 | zero=>intro rs m i h0 h1 hd _ e1 e2;exact hend rs m i (by omega) e1 e2
 | succ d ih =>
  intro rs m i h0 h1 hd hl e1 e2
  by_cases hlt:i < (x.length:Int)
  rotate_left
  ·exact hend rs m i (by omega) e1 e2
  have h11:=hx.1
  have h3:=hx.2.2
  obtain ⟨g,q,hr⟩:=drop_lt (l:=x) (i:=i.toNat) (by omega)
  have hg:=h3 g (List.drop_subset i.toNat x (by rw [hr];exact List.mem_cons_self))
  have hnx:x.drop (i + 1).toNat = q:=by rw [show (i + 1).toNat = i.toNat + 1 by omega];exact drop_next' hr
  have hrd:=rd30 hr
  have hw:wrap64 (i + 1) = i + 1:=w64 (by omega) (by omega)
  have I:=ih
  rw [hr] at e1 e2 hl
  have ht:tots (g :: q) = g.f1.length + tots q:=rfl
  have H:=has_ev g s (by omega)
  unfold rules at e1
  unfold wait at e2
  by_cases c:has s g = true
  ·rw [c] at H
   rw [if_pos c] at e1 e2
   have J:=I (rs ++ g.f1) (mx m g.f2) (i + 1) (by omega) (by omega) (by omega) (by rw [hnx,List.length_append];omega) (by rw [hnx,List.append_assoc];exact e1) (by rw [hnx];exact e2)
   refine Ev.step (fun k=>by rw [laws_FnForAll.l1,if_pos hlt,if_pos h0,hrd,hw]) (Ev.bind H (Ev.pos rfl (Ev.pos (show rs.length + g.f1.length < 5864062014805 by omega) J)))
  ·have c:=Bool.eq_false_iff.mpr c
   rw [c] at H
   rw [if_neg (by rw [c];exact Bool.false_ne_true)] at e1 e2
   have J:=I rs m (i + 1) (by omega) (by omega) (by omega) (by rw [hnx];omega) (by rw [hnx];exact e1) (by rw [hnx];exact e2)
   refine Ev.step (fun k=>by rw [laws_FnForAll.l1,if_pos hlt,if_pos h0,hrd,hw]) (Ev.bind H (Ev.neg Bool.false_ne_true J))
theorem who_loop (x:List S30) (hx:Tiny x) (a:ByteArray) (n:List ByteArray) (G:List S57) (M:Int) (d:Nat):∀ (who:ByteArray) (i:Int),0 ≤ i → i ≤ x.length → (x.length:Int) - i ≤ d →
  Ev (fun k=>laws_FnForAll.l1 k x (if (x.drop i.toNat).any (has a) = true then a else who) [] 0 0 n G M) true → Ev (fun k=>laws_FnForAll.l0 k x a who i n G M) true:=by
 have hend:∀ (who:ByteArray) (i:Int),i = x.length → Ev (fun k=>laws_FnForAll.l1 k x (if (x.drop i.toNat).any (has a) = true then a else who) [] 0 0 n G M) true → Ev (fun k=>laws_FnForAll.l0 k x a who i n G M) true:=by
  intro who i hi R
  rw [List.drop_of_length_le (by omega),List.any_nil,if_neg Bool.false_ne_true] at R
  exact Ev.step (fun k=>by rw [laws_FnForAll.l0,if_neg (by omega)]) R
 induction d with
 | zero=>intro who i h0 h1 hd R;exact hend who i (by omega) R
 | succ d ih =>
  intro who i h0 h1 hd R
  by_cases hlt:i < (x.length:Int)
  rotate_left
  ·exact hend who i (by omega) R
  have h11:=hx.1
  have h3:=hx.2.2
  obtain ⟨g,q,hr⟩:=drop_lt (l:=x) (i:=i.toNat) (by omega)
  have hg:=h3 g (List.drop_subset i.toNat x (by rw [hr];exact List.mem_cons_self))
  have hnx:x.drop (i + 1).toNat = q:=by rw [show (i + 1).toNat = i.toNat + 1 by omega];exact drop_next' hr
  have hrd:=rd30 hr
  have hw:wrap64 (i + 1) = i + 1:=w64 (by omega) (by omega)
  have H:=has_ev g a (by omega)
  rw [hr,List.any_cons] at R
  by_cases c:has a g = true
  ·rw [c] at H
   rw [c,Bool.true_or,if_pos rfl] at R
   refine Ev.step (fun k=>by rw [laws_FnForAll.l0,if_pos hlt,if_pos h0,hrd,hw]) (Ev.bind H (Ev.pos rfl (ih a (i + 1) (by omega) (by omega) (by omega) ?_)))
   rw [ite_self];exact R
  ·have c:=Bool.eq_false_iff.mpr c
   rw [c] at H
   rw [c,Bool.false_or] at R
   refine Ev.step (fun k=>by rw [laws_FnForAll.l0,if_pos hlt,if_pos h0,hrd,hw]) (Ev.bind H (Ev.neg Bool.false_ne_true (ih who (i + 1) (by omega) (by omega) (by omega) ?_)))
   rw [hnx];exact R
theorem FnForAll:laws_FnForAll.Pure:=by
 intro l hm hb hw
 apply Ev.rounds
 unfold laws_FnForAll.f
 by_cases c:(l.length:Int) > 1048576
 ·exact Ev.pos c (Ev.const rfl)
 obtain ⟨x,a,hd,hx,ha⟩:=drawn hw
 have h2:=hx.2.1
 have hL:=ans_len x a (by omega)
 have S:=group_self (ans x a) hL.1 hL.2
 have T:=sum_loop x hx (asked x a) [a] (rules (asked x a) x) (wait (asked x a) x 0) hL.2 x.length [] 0 0 (by omega) (by omega) (by omega) (by show 0 + tots (x.drop 0) ≤ _;rw [List.drop_zero];omega) rfl rfl
 have W:=who_loop x hx a [a] (rules (asked x a) x) (wait (asked x a) x 0) x.length (⟨#[42]⟩:ByteArray) 0 (by omega) (by omega) (by omega) T
 exact Ev.neg c (Ev.bind hd (Ev.bind0 (NoticeR.impl_ev hx.mild a) (Ev.bind (NoticeR.spec_ev hx.mild a) (Ev.bind S (Ev.pos rfl W)))))

end Go.Proofs.Ytheakfegchndcaa.Pure
