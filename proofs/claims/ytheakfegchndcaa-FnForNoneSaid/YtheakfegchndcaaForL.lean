/- Laws of lists of what is said to a name; the laws' comparisons; drawn groups and names. (The numbers of the types are this seat's.) Condition: none. -/
-- Cut down by a program of this session (wip/tools/prune.py) to what its claim can name.
import Derived.Test.YtheakfegchndcaaPx0
import Derived.Test.YtheakfegchndcaaPx3
import Derived.Test.YtheakfegchndcaaPx6
import Derived.Test.YtheakfegchndcaaPx7
import Derived.Test.YtheakfegchndcaaNoticeR
import Derived.Test.YtheakfegchndcaaDrawG
namespace Go.Proofs.Ytheakfegchndcaa.ForL
open Go hiding stepT
open Go.RowKit Go.Proofs.Ytheakfegchndcaa.P Go.Proofs.Ytheakfegchndcaa.Lib Go.Proofs.Ytheakfegchndcaa.Draw Go.Proofs.Ytheakfegchndcaa.NoticeF Go.Proofs.Ytheakfegchndcaa.DrawG Go.Proofs.Ytheakfegchndcaa.NoticeR Go.Proofs.YtheakfegchndcaaW.PrintWords Go.Proofs.YtheakfegchndcaaW.PrintLast
set_option linter.unusedVariables false
set_option linter.unusedSimpArgs false

theorem rules_cons (s:ByteArray) (g:S30) (t:List S30):rules s (g :: t) = if has s g = true then g.f1 ++ rules s t else rules s t:=rfl
theorem wait_cons (s:ByteArray) (g:S30) (t:List S30) (m:Int):wait s (g :: t) m = if has s g = true then wait s t (mx m g.f2) else wait s t m:=rfl
theorem tots_append (x y:List S30):tots (x ++ y) = tots x + tots y:=by
 induction x with
 | nil=>show tots y = 0 + tots y;omega
 | cons g t ih=>show g.f1.length + tots (t ++ y) = g.f1.length + tots t + tots y;omega
theorem far_ans (x:List S30) (z:S30) (a:ByteArray) (h1:has a z = false) (h2:has (⟨#[42]⟩:ByteArray) z = false):ans (z :: x) a = ans x a:=by
 have e:asked (z :: x) a = asked x a:=by
  unfold asked impl_NoticeFor.asked
  rw [List.any_cons,show impl_NoticeFor.has a z = false from h1,Bool.false_or]
 have h3:has (asked x a) z = false:=by
  unfold asked impl_NoticeFor.asked
  split
  ·exact h1
  ·exact h2
 unfold ans
 rw [e,rules_cons,wait_cons,if_neg (by rw [h3];exact Bool.false_ne_true),if_neg (by rw [h3];exact Bool.false_ne_true)]
theorem has_size {s t:ByteArray} {r:List S57} {m:Int} (h:s.size ≠ t.size):has s (⟨[t],r,m⟩:S30) = false:=by
 show (decide (s.toList = t.toList) || false) = false
 rw [decide_eq_false (fun e=>h (by rw [toList_inj e]))];rfl

theorem texts_self (l:List ByteArray) (hl:l.length ≤ 2000000):Ev (fun k=>laws_lpTexts.f k l l) true:=by
 have loop:∀ (d:Nat) (i:Int),0 ≤ i → i ≤ l.length → (l.length:Int) - i ≤ d → Ev (fun k=>laws_lpTexts.l0 k l l i) true:=by
  intro d
  have hend:∀ i:Int,¬ i < (l.length:Int) → Ev (fun k=>laws_lpTexts.l0 k l l i) true:=fun i hi =>
   Ev.step (f:=fun _=>some true) (fun k=>by rw [laws_lpTexts.l0,if_neg hi]) (Ev.const rfl)
  induction d with
  | zero=>intro i h0 h1 hd;exact hend i (by omega)
  | succ d ih =>
   intro i h0 h1 hd
   by_cases hlt:i < (l.length:Int)
   rotate_left
   ·exact hend i hlt
   have hw:wrap64 (i + 1) = i + 1:=w64 (by omega) (by omega)
   exact Ev.step (fun k=>by rw [laws_lpTexts.l0,if_pos hlt,if_pos h0,if_pos hlt,if_pos rfl,hw]) (ih (i + 1) (by omega) (by omega) (by omega))
 unfold laws_lpTexts.f
 exact Ev.pos rfl (loop l.length 0 (by omega) (by omega) (by omega))
theorem rules_self (l:List S57) (hl:l.length ≤ 20000000):Ev (fun k=>laws_lpRules.f k l l) true:=by
 have loop:∀ (d:Nat) (i:Int),0 ≤ i → i ≤ l.length → (l.length:Int) - i ≤ d → Ev (fun k=>laws_lpRules.l0 k l l i) true:=by
  intro d
  have hend:∀ i:Int,¬ i < (l.length:Int) → Ev (fun k=>laws_lpRules.l0 k l l i) true:=fun i hi =>
   Ev.step (f:=fun _=>some true) (fun k=>by rw [laws_lpRules.l0,if_neg hi]) (Ev.const rfl)
  induction d with
  | zero=>intro i h0 h1 hd;exact hend i (by omega)
  | succ d ih =>
   intro i h0 h1 hd
   by_cases hlt:i < (l.length:Int)
   rotate_left
   ·exact hend i hlt
   have hw:wrap64 (i + 1) = i + 1:=w64 (by omega) (by omega)
   exact Ev.step (fun k=>by rw [laws_lpRules.l0,if_pos hlt,if_pos h0,if_pos hlt,if_neg (by simp),hw]) (ih (i + 1) (by omega) (by omega) (by omega))
 unfold laws_lpRules.f
 exact Ev.pos rfl (loop l.length 0 (by omega) (by omega) (by omega))
theorem group_self (r:List ByteArray × List S57 × Int) (h1:r.1.length ≤ 2000000) (h2:r.2.1.length ≤ 20000000):Ev (fun k=>laws_lpGroup.f k r.1 r.2.1 r.2.2 r.1 r.2.1 r.2.2) true:=by
 unfold laws_lpGroup.f
 exact Ev.pos rfl (Ev.bind (texts_self _ h1) (Ev.pos rfl (Ev.bind (rules_self _ h2) (Ev.const rfl))))
theorem has_ev (g:S30) (s:ByteArray) (hl:g.f0.length ≤ 2000000):Ev (fun k=>laws_lpHas.f k g.f0 s) (has s g):=by
 have loop:∀ (d:Nat) (i:Int),0 ≤ i → i ≤ g.f0.length → (g.f0.length:Int) - i ≤ d → Ev (fun k=>laws_lpHas.l0 k g.f0 s i) ((g.f0.drop i.toNat).any fun y=>decide (s.toList = y.toList)):=by
  intro d
  have hend:∀ i:Int,¬ i < (g.f0.length:Int) → Ev (fun k=>laws_lpHas.l0 k g.f0 s i) ((g.f0.drop i.toNat).any fun y=>decide (s.toList = y.toList)):=fun i hi=>by
   rw [List.drop_of_length_le (by omega)]
   exact Ev.step (f:=fun _=>some false) (fun k=>by rw [laws_lpHas.l0,if_neg hi]) (Ev.const rfl)
  induction d with
  | zero=>intro i h0 h1 hd;exact hend i (by omega)
  | succ d ih =>
   intro i h0 h1 hd
   by_cases hlt:i < (g.f0.length:Int)
   rotate_left
   ·exact hend i hlt
   have hw:wrap64 (i + 1) = i + 1:=w64 (by omega) (by omega)
   obtain ⟨y,q,hr⟩:=drop_lt (l:=g.f0) (i:=i.toNat) (by omega)
   have hy:rdOf ByteArray.empty g.f0 i = y:=rdOf_get hr
   have hn:g.f0.drop (i + 1).toNat = q:=by rw [show (i + 1).toNat = i.toNat + 1 by omega];exact drop_next' hr
   have I:=ih (i + 1) (by omega) (by omega) (by omega)
   rw [hn] at I
   rw [hr,List.any_cons]
   by_cases e:y.toList = s.toList
   ·rw [decide_eq_true e.symm,Bool.true_or]
    exact Ev.step (f:=fun _=>some true) (fun k=>by rw [laws_lpHas.l0,if_pos hlt,if_pos h0,hy,if_pos e]) (Ev.const rfl)
   ·rw [decide_eq_false (fun h=>e h.symm),Bool.false_or]
    exact Ev.step (fun k=>by rw [laws_lpHas.l0,if_pos hlt,if_pos h0,hy,if_neg e,hw]) I
 unfold laws_lpHas.f
 have:=loop g.f0.length 0 (by omega) (by omega) (by omega)
 rw [Int.toNat_zero,List.drop_zero] at this
 exact this

theorem tots_le (x:List S30) (h:∀ g ∈ x,GOk g):tots x ≤ 20 * x.length:=by
 induction x with
 | nil=>exact Nat.le_refl 0
 | cons g t ih =>
  have:=ih (fun y hy=>h y (List.mem_cons_of_mem _ hy))
  have:=(h g List.mem_cons_self).2.1
  show g.f1.length + tots t ≤ 20 * (t.length + 1)
  omega
/-- Quite few. -/
def Tiny (x:List S30):Prop:=x.length ≤ 11 ∧ tots x ≤ 220 ∧ ∀ g ∈ x,g.f0.length ≤ 3
theorem Tiny.mild {x:List S30} (h:Tiny x):Mild x:=⟨by have:=h.1;omega,by have:=h.2.1;omega,fun g hg=>by have:=h.2.2 g hg;omega⟩
theorem drawn {l:List Int} (hw:∀ x ∈ l,(Lit.int .u8 x).wf = true):∃ x a,Ev (fun k=>spec_DrawNoticeFor.f k l) (x,a) ∧ Tiny x ∧ a.size = 5:=by
 obtain ⟨l',ho,hc⟩:=open_ev hw
 obtain ⟨x,p',hx,b1,b2,b3,b4⟩:=groups_ev hc (p:=0) (by omega) (by omega)
 obtain ⟨a,ha,hae⟩:=of_ev hc (p:=p') (by omega) (by omega) (xs:=[(⟨#[114,111,118,101,114]⟩:ByteArray),(⟨#[114,111,118,101,114]⟩:ByteArray),(⟨#[115,99,111,117,116]⟩:ByteArray),(⟨#[111,116,104,101,114]⟩:ByteArray)]) (by simp) (by simp)
 have hn:Ev (fun k=>spec_l71Name.f k l' p') (a,p' + 1):=by
  unfold spec_l71Name.f
  exact Ev.bind hae (Ev.const rfl)
 refine ⟨x,a,?_,⟨b1,?_,fun g hg=>(b2 g hg).1⟩,(by decide:∀ x ∈ [(⟨#[114,111,118,101,114]⟩:ByteArray),(⟨#[114,111,118,101,114]⟩:ByteArray),(⟨#[115,99,111,117,116]⟩:ByteArray),(⟨#[111,116,104,101,114]⟩:ByteArray)],ByteArray.size x = 5) a ha⟩
 ·unfold spec_DrawNoticeFor.f
  exact Ev.bind0 ho (Ev.bind hx (Ev.bind hn (Ev.const rfl)))
 ·have:=tots_le x b2;omega
theorem ans_len (x:List S30) (a:ByteArray) (h:tots x ≤ 20000000):(ans x a).1.length ≤ 2000000 ∧ (ans x a).2.1.length ≤ 20000000:=by
 refine ⟨by show 1 ≤ _;omega,?_⟩
 have:=rules_le (asked x a) x
 show (rules (asked x a) x).length ≤ _
 omega
end Go.Proofs.Ytheakfegchndcaa.ForL
