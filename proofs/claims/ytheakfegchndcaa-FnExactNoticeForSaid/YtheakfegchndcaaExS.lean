/- What the laws' helpers answer that measure and copy lists of strings. Condition: none. -/
-- Cut down by a program of this session (wip/tools/prune.py) to what its claim can name.
import Derived.Test.YtheakfegchndcaaPx1
import Derived.Test.YtheakfegchndcaaEqS
namespace Go.Proofs.Ytheakfegchndcaa.ExS
open Go hiding stepT
open Go.RowKit Go.Proofs.Ytheakfegchndcaa.P Go.Proofs.Ytheakfegchndcaa.Lib Go.Proofs.YtheakfegchndcaaW.PrintWords Go.Proofs.YtheakfegchndcaaW.PrintLast
set_option linter.unusedVariables false
set_option linter.unusedSimpArgs false

/-- All bytes of some texts. -/
def sum (l:List ByteArray):Nat:=(l.map fun p=>p.size).sum
theorem sum_cons (p:ByteArray) (l:List ByteArray):sum (p :: l) = p.size + sum l:=by simp [sum]
theorem sz_loop (x:List ByteArray) (hx:x.length ≤ 1048576) (hs:∀ r ∈ x,r.size ≤ maxLen) (d:Nat):∀ (i m:Int),0 ≤ i → i ≤ x.length → (x.length:Int) - i ≤ d → 0 ≤ m → m ≤ 1048576 →
  ∃ r,Ev (fun k=>laws_szStringS.l0 k x m i) r ∧ (¬ r < 0 → 0 ≤ r ∧ r + sum (x.drop i.toNat) = m):=by
 have hend:∀ (i m:Int),¬ i < (x.length:Int) → 0 ≤ m → ∃ r,Ev (fun k=>laws_szStringS.l0 k x m i) r ∧ (¬ r < 0 → 0 ≤ r ∧ r + sum (x.drop i.toNat) = m):=by
  intro i m hlt hm
  refine ⟨m,Ev.step (f:=fun _=>some m) (fun k=>by rw [laws_szStringS.l0,if_neg hlt]) (Ev.const rfl),fun _=>⟨hm,?_⟩⟩
  rw [List.drop_of_length_le (by omega)];simp [sum]
 induction d with
 | zero=>intro i m h0 h1 hd h2 _;exact hend i m (by omega) h2
 | succ d ih =>
  intro i m h0 h1 hd hm0 hm1
  by_cases hlt:i < (x.length:Int)
  rotate_left
  ·exact hend i m hlt hm0
  obtain ⟨r,q,hr⟩:=drop_lt (l:=x) (i:=i.toNat) (by omega)
  have hrd:rdOf ByteArray.empty x i = r:=rdOf_get hr
  have hsz:=hs r (List.drop_subset i.toNat x (by rw [hr];exact List.mem_cons_self))
  have hn:x.drop (i + 1).toNat = q:=by rw [show (i + 1).toNat = i.toNat + 1 by omega];exact drop_next' hr
  unfold maxLen at hsz
  have w1:wrap64 (m - (r.size:Int)) = m - r.size:=w64 (by omega) (by omega)
  have w2:wrap64 (i + 1) = i + 1:=w64 (by omega) (by omega)
  by_cases hneg:m - (r.size:Int) < 0
  ·refine ⟨-1,Ev.step (f:=fun _=>some (-1)) (fun k=>?_) (Ev.const rfl),fun h=>absurd (by decide) h⟩
   rw [laws_szStringS.l0,if_pos hlt,if_pos h0,hrd,w1,if_pos hneg]
  ·obtain ⟨s,hsr,hst⟩:=ih (i + 1) (m - r.size) (by omega) (by omega) (by omega) (by omega) (by omega)
   refine ⟨s,Ev.step (fun k=>?_) hsr,fun h=>?_⟩
   ·rw [laws_szStringS.l0,if_pos hlt,if_pos h0,hrd,w1,if_neg hneg,w2]
   ·obtain ⟨a,b⟩:=hst h
    rw [hn] at b
    rw [hr,sum_cons]
    exact ⟨a,by omega⟩
theorem sz_ev {x:List ByteArray} (hm:x.length ≤ maxLen) (hs:∀ r ∈ x,r.size ≤ maxLen) {m:Int} (hm0:0 ≤ m) (hm1:m ≤ 1048576) :
  ∃ r,Ev (fun k=>laws_szStringS.f k x m) r ∧ (¬ r < 0 → 0 ≤ r ∧ r + (x.length + sum x) = m):=by
 unfold maxLen at hm
 have w1:wrap64 (m - (x.length:Int)) = m - x.length:=w64 (by omega) (by omega)
 unfold laws_szStringS.f
 rw [w1]
 by_cases h:m - (x.length:Int) < 0
 ·exact ⟨-1,Ev.pos h (Ev.const rfl),fun h=>absurd (by decide) h⟩
 ·obtain ⟨r,hr,hr2⟩:=sz_loop x (by omega) hs x.length 0 (m - x.length) (by omega) (by omega) (by omega) (by omega) (by omega)
  refine ⟨r,Ev.neg h hr,fun hn=>?_⟩
  obtain ⟨a,b⟩:=hr2 hn
  rw [Int.toNat_zero,List.drop_zero] at b
  exact ⟨a,by omega⟩
theorem to_loop (x:List ByteArray) (hx:x.length ≤ 1048576) (d:Nat):∀ (i:Int) (o:List ByteArray),0 ≤ i → i ≤ x.length → (x.length:Int) - i ≤ d → o.length = x.length → o.take i.toNat = x.take i.toNat →
  Ev (fun k=>laws_toStringS.l0 k x o i) x:=by
 have hend:∀ (i:Int) (o:List ByteArray),¬ i < (x.length:Int) → o.length = x.length → o.take i.toNat = x.take i.toNat → Ev (fun k=>laws_toStringS.l0 k x o i) x:=by
  intro i o hlt hl ht
  rw [List.take_of_length_le (by omega),List.take_of_length_le (by omega)] at ht
  exact Ev.step (f:=fun _=>some o) (fun k=>by rw [laws_toStringS.l0,if_neg hlt]) (Ev.const (by rw [ht]))
 induction d with
 | zero=>intro i o h0 h1 hd hl ht;exact hend i o (by omega) hl ht
 | succ d ih =>
  intro i o h0 h1 hd hl ht
  by_cases hlt:i < (x.length:Int)
  rotate_left
  ·exact hend i o hlt hl ht
  obtain ⟨r,q,hr⟩:=drop_lt (l:=x) (i:=i.toNat) (by omega)
  have hrd:rdOf ByteArray.empty x i = r:=rdOf_get hr
  have w2:wrap64 (i + 1) = i + 1:=w64 (by omega) (by omega)
  have hlo:i < (o.length:Int):=by omega
  have I:=ih (i + 1) (o.set i.toNat r) (by omega) (by omega) (by omega) (by rw [List.length_set];exact hl) (by
   rw [show (i + 1).toNat = i.toNat + 1 by omega]
   rw [List.take_succ_eq_append_getElem (by rw [List.length_set];omega),List.take_succ_eq_append_getElem (show i.toNat < x.length by omega),List.getElem_set_self,List.take_set_of_le (Nat.le_refl _),ht]
   rw [List.drop_eq_getElem_cons (show i.toNat < x.length by omega)] at hr
   injection hr with hr _
   rw [hr])
  exact Ev.step (fun k=>by rw [laws_toStringS.l0,if_pos hlt,if_pos h0,if_pos hlo,hrd,w2]) I
theorem to_ev {x:List ByteArray} (hx:x.length ≤ 1048576):Ev (fun k=>laws_toStringS.f k x) x:=by
 unfold laws_toStringS.f
 refine Ev.pos (by omega) (Ev.pos (by omega) ?_)
 exact to_loop x hx x.length 0 _ (by omega) (by omega) (by omega) (by simp) (by simp)
end Go.Proofs.Ytheakfegchndcaa.ExS
