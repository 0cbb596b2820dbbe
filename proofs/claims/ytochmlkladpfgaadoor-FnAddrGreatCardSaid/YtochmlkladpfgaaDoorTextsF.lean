/- Whether two lists of strings are the same, as the laws ask it. Condition: at most a thousand million. -/
-- Cut down by a program of this session (wip/tools/prune.py) to what its claim can name.
import Derived.Test.YtochmlkladpfgaaDoorPx6
import Derived.Test.YtochmlkladpfgaaDoorLib
namespace Go.Proofs.YtochmlkladpfgaaDoor.PathF
open Go Go.RowKit Go.Proofs.YtochmlkladpfgaaDoor.P Go.Proofs.YtochmlkladpfgaaDoor.Lib Go.Proofs.YtochmlkladpfgaaDoorW.PrintWords Go.Proofs.YtochmlkladpfgaaDoorW.PrintLast
set_option linter.unusedVariables false
set_option linter.unusedSimpArgs false

/-! the laws' helpers -/
theorem texts_loop (a b:List ByteArray) (hb:a.length = b.length) (hx:a.length ≤ 1000000000) (d:Nat):∀ i:Int,0 ≤ i → i ≤ a.length → (a.length:Int) - i ≤ d →
  Ev (fun k=>laws_lpTexts.l0 k a b i) (decide (a.drop i.toNat = b.drop i.toNat)):=by
 have hend:∀ i:Int,i = a.length → Ev (fun k=>laws_lpTexts.l0 k a b i) (decide (a.drop i.toNat = b.drop i.toNat)):=by
  intro i hi
  rw [List.drop_of_length_le (by omega),List.drop_of_length_le (by omega)]
  refine Ev.step (f:=fun _=>some true) (fun k=>?_) (Ev.const (by simp))
  simp only [laws_lpTexts.l0];rw [if_neg (by omega)]
 induction d with
 | zero=>intro i h0 h1 hd;exact hend i (by omega)
 | succ d ih =>
  intro i h0 h1 hd
  by_cases hlt:i < (a.length:Int)
  rotate_left
  ·exact hend i (by omega)
  obtain ⟨p,q,hpq⟩:=drop_lt (l:=a) (i:=i.toNat) (by omega)
  obtain ⟨p',q',hpq'⟩:=drop_lt (l:=b) (i:=i.toNat) (by omega)
  have w1:wrap64 (i + 1) = i + 1:=w64 (by omega) (by omega)
  have hn:a.drop (i + 1).toNat = q:=by rw [show (i + 1).toNat = i.toNat + 1 by omega];exact drop_next' hpq
  have hn':b.drop (i + 1).toNat = q':=by rw [show (i + 1).toNat = i.toNat + 1 by omega];exact drop_next' hpq'
  have I:=ih (i + 1) (by omega) (by omega) (by omega)
  rw [hn,hn'] at I
  rw [hpq,hpq']
  by_cases hp:p = p'
  ·subst hp
   have:decide (p :: q = p :: q') = decide (q = q'):=by simp
   rw [this]
   refine Ev.step (f:=fun k=>laws_lpTexts.l0 k a b (i + 1)) (fun k=>?_) I
   simp only [laws_lpTexts.l0]
   rw [if_pos hlt,if_pos h0,if_pos (by omega),rdOf_get hpq,rdOf_get hpq',if_pos rfl,w1]
  ·have:decide (p :: q = p' :: q') = false:=by simp [hp]
   rw [this]
   refine Ev.step (f:=fun _=>some false) (fun k=>?_) (Ev.const rfl)
   simp only [laws_lpTexts.l0]
   rw [if_pos hlt,if_pos h0,if_pos (by omega),rdOf_get hpq,rdOf_get hpq',if_neg (fun h=>hp (toList_inj h))]

theorem texts_ev {a b:List ByteArray} (hx:a.length ≤ 1000000000):Ev (fun k=>laws_lpTexts.f k a b) (decide (a = b)):=by
 unfold laws_lpTexts.f
 by_cases h:a.length = b.length
 ·refine Ev.pos (by omega) ?_
  have:=texts_loop a b h hx a.length 0 (by omega) (by omega) (by omega)
  simpa using this
 ·refine Ev.neg (by omega) (Ev.const ?_)
  rw [decide_eq_false (fun e=>h (by rw [e]))]

end Go.Proofs.YtochmlkladpfgaaDoor.PathF
