/- What NoticeFor of the reference and of the program answers: one function of the groups and the name. (The numbers of the types are this seat's.) Condition: not more than two million names of a group and groups, five million rules in all. -/
-- Cut down by a program of this session (wip/tools/prune.py) to what its claim can name.
import Derived.Test.YtheakfegchndcaaPx0
import Derived.Test.YtheakfegchndcaaPx2
import Derived.Test.YtheakfegchndcaaGrpB
namespace Go.Proofs.Ytheakfegchndcaa.NoticeR
open Go Go.RowKit Go.Proofs.Ytheakfegchndcaa.P Go.Proofs.Ytheakfegchndcaa.Lib Go.Proofs.Ytheakfegchndcaa.NoticeF Go.Proofs.YtheakfegchndcaaW.PrintWords Go.Proofs.YtheakfegchndcaaW.PrintLast
set_option linter.unusedVariables false
set_option linter.unusedSimpArgs false

abbrev has:=impl_NoticeFor.has
abbrev asked:=impl_NoticeFor.asked
def rules (s:ByteArray):List S30 → List S57
 | []=>[]
 | g :: t=>if has s g = true then g.f1 ++ rules s t else rules s t
def wait (s:ByteArray):List S30 → Int → Int
 | [],m=>m
 | g :: t,m=>if has s g = true then wait s t (mx m g.f2) else wait s t m
/-- All rules of some groups. -/
def tots:List S30 → Nat
 | []=>0
 | g :: t=>g.f1.length + tots t
def ans (x:List S30) (a:ByteArray):List ByteArray × List S57 × Int:=([a],rules (asked x a) x,wait (asked x a) x 0)
/-- Not many of each. -/
def Mild (x:List S30):Prop:=x.length ≤ 2000000 ∧ tots x ≤ 5000000 ∧ ∀ g ∈ x,g.f0.length ≤ 2000000

theorem rules_le (s:ByteArray) (x:List S30):(rules s x).length ≤ tots x:=by
 induction x with
 | nil=>exact Nat.le_refl 0
 | cons g t ih =>
  unfold rules tots
  split
  ·rw [List.length_append];omega
  ·omega
theorem impl_go (s:ByteArray) (x:List S30):∀ (rs:List S57) (m:Int),rs.length + tots x < 5864062014805 → impl_NoticeFor.go s x rs m = some (rs ++ rules s x,wait s x m):=by
 induction x with
 | nil=>intro rs m _;unfold impl_NoticeFor.go rules wait;rw [List.append_nil]
 | cons g t ih =>
  intro rs m h
  have ht:tots (g :: t) = g.f1.length + tots t:=rfl
  unfold impl_NoticeFor.go rules wait
  by_cases c:has s g = true
  ·rw [if_pos c,if_pos c,if_pos c,if_pos (by omega),ih _ _ (by rw [List.length_append];omega),List.append_assoc]
  ·rw [if_neg c,if_neg c,if_neg c,ih _ _ (by omega)]
theorem impl_ev {x:List S30} (h:Mild x) (a:ByteArray):impl_NoticeFor.f x a = some (ans x a):=by
 have:=h.2.1
 unfold impl_NoticeFor.f
 rw [impl_go _ _ _ _ (by show 0 + tots x < _;omega)]
 rfl

section
variable (x:List S30) (s:ByteArray) (t:Bool) (i:Int) (n:List ByteArray) (rs:List S57) (m:Int) (g:S30) (R:List ByteArray × List S57 × Int × Bool)
 (h0:0 ≤ i) (h1:i < (x.length:Int)) (hrd:rd_T30 x i = g) (hg:g.f0.length ≤ 2000000) (hl:rs.length + g.f1.length < 5864062014805) (hw:wrap64 (i + 1) = i + 1)
include h0 h1 hrd hg hl hw
theorem spec_names (d:Nat):∀ (b:Bool) (j:Int),0 ≤ j → j ≤ g.f0.length → (g.f0.length:Int) - j ≤ d →
  ((b || (g.f0.drop j.toNat).any fun y=>decide (s.toList = y.toList)) = true → Ev (fun k=>spec_l2Of.l0 k x s true (i + 1) n (rs ++ g.f1) (mx m g.f2)) R) →
  ((b || (g.f0.drop j.toNat).any fun y=>decide (s.toList = y.toList)) = false → Ev (fun k=>spec_l2Of.l0 k x s t (i + 1) n rs m) R) →
  Ev (fun k=>spec_l2Of.l1 k x s t i b j n rs m) R:=by
 have hend:∀ (b:Bool) (j:Int),j = g.f0.length →
   ((b || (g.f0.drop j.toNat).any fun y=>decide (s.toList = y.toList)) = true → Ev (fun k=>spec_l2Of.l0 k x s true (i + 1) n (rs ++ g.f1) (mx m g.f2)) R) →
   ((b || (g.f0.drop j.toNat).any fun y=>decide (s.toList = y.toList)) = false → Ev (fun k=>spec_l2Of.l0 k x s t (i + 1) n rs m) R) →
   Ev (fun k=>spec_l2Of.l1 k x s t i b j n rs m) R:=by
  intro b j hj hT hF
  rw [List.drop_of_length_le (by omega),List.any_nil,Bool.or_false] at hT hF
  cases b with
  | true=>exact Ev.step (fun k=>by rw [spec_l2Of.l1,if_pos h0,if_pos h1,hrd,if_neg (by omega),if_pos rfl,if_pos hl,hw]) (hT rfl)
  | false=>exact Ev.step (fun k=>by rw [spec_l2Of.l1,if_pos h0,if_pos h1,hrd,if_neg (by omega),if_neg Bool.false_ne_true,hw]) (hF rfl)
 induction d with
 | zero=>intro b j a0 a1 hd hT hF;exact hend b j (by omega) hT hF
 | succ d ih =>
  intro b j a0 a1 hd hT hF
  by_cases hlt:j < (g.f0.length:Int)
  rotate_left
  ·exact hend b j (by omega) hT hF
  obtain ⟨y,q,hr⟩:=drop_lt (l:=g.f0) (i:=j.toNat) (by omega)
  have hy:rdOf ByteArray.empty g.f0 j = y:=rdOf_get hr
  have hn:g.f0.drop (j + 1).toNat = q:=by rw [show (j + 1).toNat = j.toNat + 1 by omega];exact drop_next' hr
  have w1:wrap64 (j + 1) = j + 1:=w64 (by omega) (by omega)
  rw [hr,List.any_cons] at hT hF
  cases b with
  | true =>
   refine Ev.step (fun k=>by rw [spec_l2Of.l1,if_pos h0,if_pos h1,hrd,if_pos hlt,if_pos rfl,w1]) (ih true (j + 1) (by omega) (by omega) (by omega) ?_ ?_)
   ·intro _;exact hT rfl
   ·intro h;exact absurd h (by simp)
  | false =>
   have e:(y.toList == s.toList) = decide (s.toList = y.toList):=by
    rw [Bool.eq_iff_iff,beq_iff_eq,decide_eq_true_eq];exact eq_comm
   refine Ev.step (fun k=>by rw [spec_l2Of.l1,if_pos h0,if_pos h1,hrd,if_pos hlt,if_neg Bool.false_ne_true,if_pos a0,hy,w1,e]) (ih (decide (s.toList = y.toList)) (j + 1) (by omega) (by omega) (by omega) ?_ ?_)
   ·rw [hn];exact hT
   ·rw [hn];exact hF
end
theorem spec_loop (x:List S30) (s:ByteArray) (n:List ByteArray) (hx:x.length ≤ 2000000) (hf:∀ g ∈ x,g.f0.length ≤ 2000000) (d:Nat):∀ (t:Bool) (i:Int) (rs:List S57) (m:Int),0 ≤ i → i ≤ x.length → (x.length:Int) - i ≤ d →
  rs.length + tots (x.drop i.toNat) < 5864062014805 → Ev (fun k=>spec_l2Of.l0 k x s t i n rs m) (n,rs ++ rules s (x.drop i.toNat),wait s (x.drop i.toNat) m,t || (x.drop i.toNat).any (has s)):=by
 have hend:∀ (t:Bool) (i:Int) (rs:List S57) (m:Int),i = x.length → Ev (fun k=>spec_l2Of.l0 k x s t i n rs m) (n,rs ++ rules s (x.drop i.toNat),wait s (x.drop i.toNat) m,t || (x.drop i.toNat).any (has s)):=by
  intro t i rs m hi
  rw [List.drop_of_length_le (by omega)]
  exact Ev.step (f:=fun _=>some (n,rs,m,t)) (fun k=>by rw [spec_l2Of.l0,if_neg (by omega)]) (Ev.const (by simp [rules,wait]))
 induction d with
 | zero=>intro t i rs m h0 h1 hd _;exact hend t i rs m (by omega)
 | succ d ih =>
  intro t i rs m h0 h1 hd hl
  by_cases hlt:i < (x.length:Int)
  rotate_left
  ·exact hend t i rs m (by omega)
  obtain ⟨g,q,hr⟩:=drop_lt (l:=x) (i:=i.toNat) (by omega)
  have hg:=hf g (List.drop_subset i.toNat x (by rw [hr];exact List.mem_cons_self))
  have hnx:x.drop (i + 1).toNat = q:=by rw [show (i + 1).toNat = i.toNat + 1 by omega];exact drop_next' hr
  have hrd:=rd30 hr
  have hw:wrap64 (i + 1) = i + 1:=w64 (by omega) (by omega)
  rw [hr] at hl ⊢
  have ht:tots (g :: q) = g.f1.length + tots q:=rfl
  have I:=fun t' rs' m' h=>ih t' (i + 1) rs' m' (by omega) (by omega) (by omega) h
  rw [hnx] at I
  refine Ev.step (fun k=>by rw [spec_l2Of.l0,if_pos hlt]) (spec_names x s t i n rs m g _ h0 hlt hrd hg (by omega) hw g.f0.length false 0 (by omega) (by omega) (by omega) ?_ ?_)
  ·intro h
   rw [Bool.false_or,Int.toNat_zero,List.drop_zero] at h
   have hh:has s g = true:=h
   have:=I true (rs ++ g.f1) (mx m g.f2) (by rw [List.length_append];omega)
   unfold rules wait
   rw [if_pos hh,if_pos hh,List.any_cons,hh]
   rw [List.append_assoc] at this
   simpa using this
  ·intro h
   rw [Bool.false_or,Int.toNat_zero,List.drop_zero] at h
   have hh:has s g = false:=h
   have:=I t rs m (by omega)
   unfold rules wait
   rw [if_neg (by rw [hh];exact Bool.false_ne_true),if_neg (by rw [hh];exact Bool.false_ne_true),List.any_cons,hh,Bool.false_or]
   exact this
theorem of_ev {x:List S30} (h:Mild x) (s:ByteArray):Ev (fun k=>spec_l2Of.f k x s) ([s],rules s x,wait s x 0,x.any (has s)):=by
 obtain ⟨h1,h2,h3⟩:=h
 unfold spec_l2Of.f
 have:=spec_loop x s [s] h1 h3 x.length false 0 [] 0 (by omega) (by omega) (by omega) (by show 0 + tots (x.drop 0) < _;rw [List.drop_zero];omega)
 rw [Int.toNat_zero,List.drop_zero,Bool.false_or,List.nil_append] at this
 exact this
theorem spec_ev {x:List S30} (h:Mild x) (a:ByteArray):Ev (fun k=>spec_NoticeFor.f k x a) (ans x a):=by
 unfold spec_NoticeFor.f ans asked impl_NoticeFor.asked
 refine Ev.bind (of_ev h a) ?_
 by_cases c:x.any (has a) = true
 ·rw [if_pos c]
  exact Ev.pos c (Ev.const rfl)
 ·rw [if_neg c]
  exact Ev.neg c (Ev.bind (of_ev h _) (Ev.const rfl))
end Go.Proofs.Ytheakfegchndcaa.NoticeR
