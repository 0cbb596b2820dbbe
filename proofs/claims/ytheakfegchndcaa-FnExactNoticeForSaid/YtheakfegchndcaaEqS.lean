/- Whether two lists of strings are the same, as the laws' helpers ask it: each is itself. Condition: none. -/
-- Cut down by a program of this session (wip/tools/prune.py) to what its claim can name.
import Derived.Test.YtheakfegchndcaaPx1
import Derived.Test.YtheakfegchndcaaLib
namespace Go.Proofs.Ytheakfegchndcaa.ExS
open Go hiding stepT
open Go.RowKit Go.Proofs.Ytheakfegchndcaa.P Go.Proofs.Ytheakfegchndcaa.Lib Go.Proofs.YtheakfegchndcaaW.PrintWords Go.Proofs.YtheakfegchndcaaW.PrintLast
set_option linter.unusedVariables false
set_option linter.unusedSimpArgs false

theorem eq_loop (x:List ByteArray) (hx:x.length ≤ 1048576) (d:Nat):∀ (i:Int),0 ≤ i → i ≤ x.length → (x.length:Int) - i ≤ d → Ev (fun k=>laws_eqStringS.l0 k x x i) true:=by
 have hend:∀ (i:Int),¬ i < (x.length:Int) → Ev (fun k=>laws_eqStringS.l0 k x x i) true:=fun i hlt =>
  Ev.step (f:=fun _=>some true) (fun k=>by rw [laws_eqStringS.l0,if_neg hlt]) (Ev.const rfl)
 induction d with
 | zero=>intro i h0 h1 hd;exact hend i (by omega)
 | succ d ih =>
  intro i h0 h1 hd
  by_cases hlt:i < (x.length:Int)
  rotate_left
  ·exact hend i hlt
  have w2:wrap64 (i + 1) = i + 1:=w64 (by omega) (by omega)
  exact Ev.step (fun k=>by rw [laws_eqStringS.l0,if_pos hlt,if_pos h0,if_pos hlt,if_pos rfl,w2]) (ih (i + 1) (by omega) (by omega) (by omega))
theorem eq_ev {x:List ByteArray} (hx:x.length ≤ 1048576):Ev (fun k=>laws_eqStringS.f k x x) true:=by
 unfold laws_eqStringS.f
 exact Ev.pos rfl (eq_loop x hx x.length 0 (by omega) (by omega) (by omega))
end Go.Proofs.Ytheakfegchndcaa.ExS
