/- Rules and groups, as the laws' helpers weigh, copy and compare them. (The numbers of the types are this seat's.) Condition: none. -/
-- Cut down by a program of this session (wip/tools/prune.py) to what its claim can name.
import Derived.Test.YtheakfegchndcaaPx0
import Derived.Test.YtheakfegchndcaaPx1
import Derived.Test.YtheakfegchndcaaGrpB
import Derived.Test.YtheakfegchndcaaExS
namespace Go.Proofs.Ytheakfegchndcaa.HelpR
open Go hiding stepT
open Go.RowKit Go.Proofs.Ytheakfegchndcaa.P Go.Proofs.Ytheakfegchndcaa.Lib Go.Proofs.YtheakfegchndcaaW.PrintWords Go.Proofs.YtheakfegchndcaaW.PrintLast
set_option linter.unusedVariables false
set_option linter.unusedSimpArgs false

theorem sz_loop (x:List S83) (hx:x.length ≤ 1048576) (hs:∀ r ∈ x,True ∧ r.f1.size ≤ maxLen) (d:Nat):∀ (i m:Int),0 ≤ i → i ≤ x.length → (x.length:Int) - i ≤ d → 0 ≤ m → m ≤ 1048576 →
  ∃ r,Ev (fun k=>laws_szRuleS.l0 k x m i) r ∧ (¬ r < 0 → r ≤ m):=by
 induction d with
 | zero =>
  intro i m h0 h1 hd _ _
  exact ⟨m,Ev.step (f:=fun _=>some m) (fun k=>by rw [laws_szRuleS.l0,if_neg (by omega)]) (Ev.const rfl),fun _=>Int.le_refl m⟩
 | succ d ih =>
  intro i m h0 h1 hd hm0 hm1
  by_cases hlt:i < (x.length:Int)
  rotate_left
  ·exact ⟨m,Ev.step (f:=fun _=>some m) (fun k=>by rw [laws_szRuleS.l0,if_neg hlt]) (Ev.const rfl),fun _=>Int.le_refl m⟩
  obtain ⟨r,q,hr⟩:=drop_lt (l:=x) (i:=i.toNat) (by omega)
  have hrd:rd_T83 x i = r:=by
   unfold rd_T83
   rw [List.getD_eq_getElem?_getD,List.getElem?_eq_getElem (show i.toNat < x.length by omega)]
   rw [List.drop_eq_getElem_cons (show i.toNat < x.length by omega)] at hr
   injection hr with hr _
  have hsz:=(hs r (List.drop_subset i.toNat x (by rw [hr];exact List.mem_cons_self))).2
  unfold maxLen at hsz
  have w1:wrap64 (m - (r.f1.size:Int)) = m - r.f1.size:=w64 (by omega) (by omega)
  have w2:wrap64 (i + 1) = i + 1:=w64 (by omega) (by omega)
  by_cases hneg:m - (r.f1.size:Int) < 0
  ·refine ⟨-1,Ev.step (f:=fun _=>some (-1)) (fun k=>?_) (Ev.const rfl),fun h=>absurd (by decide) h⟩
   rw [laws_szRuleS.l0,if_pos hlt,if_pos h0,hrd,laws_szRule.f,w1,if_pos hneg,Option.bind_some,if_pos (by decide)]
  ·obtain ⟨s,hsr,hsb⟩:=ih (i + 1) (m - r.f1.size) (by omega) (by omega) (by omega) (by omega) (by omega)
   refine ⟨s,Ev.step (fun k=>?_) hsr,fun h=>by have:=hsb h;omega⟩
   rw [laws_szRuleS.l0,if_pos hlt,if_pos h0,hrd,laws_szRule.f,w1,if_neg hneg,Option.bind_some,if_neg hneg,w2]
theorem sz_ev {x:List S83} (hm:x.length ≤ maxLen) (hs:∀ r ∈ x,True ∧ r.f1.size ≤ maxLen) {m:Int} (hm0:0 ≤ m) (hm1:m ≤ 1048576):∃ r,Ev (fun k=>laws_szRuleS.f k x m) r ∧ (¬ r < 0 → r ≤ m ∧ x.length ≤ 1048576):=by
 unfold maxLen at hm
 have w1:wrap64 (m - (x.length:Int)) = m - x.length:=w64 (by omega) (by omega)
 unfold laws_szRuleS.f
 rw [w1]
 by_cases h:m - x.length < 0
 ·exact ⟨-1,Ev.pos h (Ev.const rfl),fun h=>absurd (by decide) h⟩
 ·obtain ⟨r,hr,hb⟩:=sz_loop x (by omega) hs x.length 0 (m - x.length) (by omega) (by omega) (by omega) (by omega) (by omega)
  exact ⟨r,Ev.neg h hr,fun h=>by have:=hb h;omega⟩
theorem sz_ev2 {x:List S83} (hm:x.length ≤ maxLen) (hs:∀ r ∈ x,True ∧ r.f1.size ≤ maxLen) {m:Int} (hm0:0 ≤ m) (hm1:m ≤ 1048576):∃ r,Ev (fun k=>laws_szRuleS.f k x m) r ∧ (¬ r < 0 → r + x.length ≤ m):=by
 unfold maxLen at hm
 have w1:wrap64 (m - (x.length:Int)) = m - x.length:=w64 (by omega) (by omega)
 unfold laws_szRuleS.f
 rw [w1]
 by_cases h:m - x.length < 0
 ·exact ⟨-1,Ev.pos h (Ev.const rfl),fun h=>absurd (by decide) h⟩
 ·obtain ⟨r,hr,hb⟩:=sz_loop x (by omega) hs x.length 0 (m - x.length) (by omega) (by omega) (by omega) (by omega) (by omega)
  exact ⟨r,Ev.neg h hr,fun h=>by have:=hb h;omega⟩
def toR (r:S83):S57:=⟨r.f0,r.f1⟩
theorem to_loop (x:List S83) (hx:x.length ≤ 1048576) (d:Nat):∀ (i:Int) (o:List S57),0 ≤ i → i ≤ x.length → (x.length:Int) - i ≤ d → o.length = x.length → o.take i.toNat = (x.map toR).take i.toNat →
  Ev (fun k=>laws_toRuleS.l0 k x o i) (x.map toR):=by
 have hend:∀ (i:Int) (o:List S57),¬ i < (x.length:Int) → o.length = x.length → o.take i.toNat = (x.map toR).take i.toNat → Ev (fun k=>laws_toRuleS.l0 k x o i) (x.map toR):=by
  intro i o hlt hl ht
  rw [List.take_of_length_le (by omega),List.take_of_length_le (by rw [List.length_map];omega)] at ht
  exact Ev.step (f:=fun _=>some o) (fun k=>by rw [laws_toRuleS.l0,if_neg hlt]) (Ev.const (by rw [ht]))
 induction d with
 | zero=>intro i o h0 h1 hd hl ht;exact hend i o (by omega) hl ht
 | succ d ih =>
  intro i o h0 h1 hd hl ht
  by_cases hlt:i < (x.length:Int)
  rotate_left
  ·exact hend i o hlt hl ht
  obtain ⟨r,q,hr⟩:=drop_lt (l:=x) (i:=i.toNat) (by omega)
  have hrd:rd_T83 x i = r:=by
   unfold rd_T83
   rw [List.getD_eq_getElem?_getD,List.getElem?_eq_getElem (show i.toNat < x.length by omega)]
   rw [List.drop_eq_getElem_cons (show i.toNat < x.length by omega)] at hr
   injection hr with hr _
  have w2:wrap64 (i + 1) = i + 1:=w64 (by omega) (by omega)
  have hlo:i < (o.length:Int):=by omega
  have I:=ih (i + 1) (o.set i.toNat (toR r)) (by omega) (by omega) (by omega) (by rw [List.length_set];exact hl) (by
   rw [show (i + 1).toNat = i.toNat + 1 by omega]
   rw [List.take_succ_eq_append_getElem (by rw [List.length_set];omega),List.take_succ_eq_append_getElem (by rw [List.length_map];omega),List.getElem_set_self,List.getElem_map,List.take_set_of_le (Nat.le_refl _),ht]
   rw [List.drop_eq_getElem_cons (show i.toNat < x.length by omega)] at hr
   injection hr with hr _
   rw [hr])
  exact Ev.step (fun k=>by rw [laws_toRuleS.l0,if_pos hlt,if_pos h0,hrd,laws_toRule.f,Option.bind_some,if_pos hlo,w2];rfl) I
theorem to_ev {x:List S83} (hx:x.length ≤ 1048576):Ev (fun k=>laws_toRuleS.f k x) (x.map toR):=by
 unfold laws_toRuleS.f
 refine Ev.pos (by omega) (Ev.pos (by omega) ?_)
 exact to_loop x hx x.length 0 _ (by omega) (by omega) (by omega) (by simp) (by simp)
theorem eq_loop (x:List S57) (hx:x.length ≤ 1048576) (d:Nat):∀ (i:Int),0 ≤ i → i ≤ x.length → (x.length:Int) - i ≤ d → Ev (fun k=>laws_eqRuleS.l0 k x x i) true:=by
 have hend:∀ (i:Int),¬ i < (x.length:Int) → Ev (fun k=>laws_eqRuleS.l0 k x x i) true:=fun i hlt =>
  Ev.step (f:=fun _=>some true) (fun k=>by rw [laws_eqRuleS.l0,if_neg hlt]) (Ev.const rfl)
 induction d with
 | zero=>intro i h0 h1 hd;exact hend i (by omega)
 | succ d ih =>
  intro i h0 h1 hd
  by_cases hlt:i < (x.length:Int)
  rotate_left
  ·exact hend i hlt
  have w2:wrap64 (i + 1) = i + 1:=w64 (by omega) (by omega)
  have e:laws_eqRule.f ((rd_T57 x i).f0) ((rd_T57 x i).f1) ((rd_T57 x i).f0) ((rd_T57 x i).f1) = some true:=by
   unfold laws_eqRule.f
   rw [if_neg (by simp),if_pos rfl]
  exact Ev.step (fun k=>by rw [laws_eqRuleS.l0,if_pos hlt,if_pos h0,if_pos hlt,e,Option.bind_some,if_pos rfl,w2]) (ih (i + 1) (by omega) (by omega) (by omega))
theorem eq_ev {x:List S57} (hx:x.length ≤ 1048576):Ev (fun k=>laws_eqRuleS.f k x x) true:=by
 unfold laws_eqRuleS.f
 exact Ev.pos rfl (eq_loop x hx x.length 0 (by omega) (by omega) (by omega))

end Go.Proofs.Ytheakfegchndcaa.HelpR
