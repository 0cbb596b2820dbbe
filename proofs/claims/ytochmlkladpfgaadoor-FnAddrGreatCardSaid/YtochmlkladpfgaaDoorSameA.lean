/- Addresses are compared field by field. Condition: not more than a thousand million parts. -/
-- Cut down by a program of this session (wip/tools/prune.py) to what its claim can name.
import Derived.Test.YtochmlkladpfgaaDoorPx6
import Derived.Test.YtochmlkladpfgaaDoorAddrS
import Derived.Test.YtochmlkladpfgaaDoorTextsF
namespace Go.Proofs.YtochmlkladpfgaaDoor.DrawA
open Go hiding stepT
open Go.RowKit Go.Proofs.YtochmlkladpfgaaDoor.P Go.Proofs.YtochmlkladpfgaaDoor.Lib Go.Proofs.YtochmlkladpfgaaDoor.CutP Go.Proofs.YtochmlkladpfgaaDoor.Draw Go.Proofs.YtochmlkladpfgaaDoor.AddrP Go.Proofs.YtochmlkladpfgaaDoor.AddrF Go.Proofs.YtochmlkladpfgaaDoor.AddrR Go.Proofs.YtochmlkladpfgaaDoor.AddrD Go.Proofs.YtochmlkladpfgaaDoorW.PrintWords Go.Proofs.YtochmlkladpfgaaDoorW.PrintLast
set_option linter.unusedVariables false
set_option linter.unusedSimpArgs false

/-- Whether two addresses are the same. -/
theorem same_ev {h:ByteArray} {l:List ByteArray} {b:Bool} {q h':ByteArray} {l':List ByteArray} {b':Bool} {q':ByteArray} (hl:l.length ≤ 1000000000) :
  Ev (fun k=>laws_lpAddr.f k h l b q h' l' b' q') (decide (h = h' ∧ l = l' ∧ b = b' ∧ q = q')):=by
 unfold laws_lpAddr.f
 by_cases c1:h = h'
 rotate_left
 ·rw [decide_eq_false (fun e=>c1 e.1)]
  exact Ev.neg (fun e=>c1 (toList_inj e)) (Ev.const rfl)
 refine Ev.pos (by rw [c1]) ?_
 by_cases c2:b = b'
 rotate_left
 ·rw [decide_eq_false (fun e=>c2 e.2.2.1)]
  exact Ev.neg (by simpa using c2) (Ev.const rfl)
 refine Ev.pos (by simpa using c2) ?_
 by_cases c3:q = q'
 rotate_left
 ·rw [decide_eq_false (fun e=>c3 e.2.2.2)]
  exact Ev.neg (fun e=>c3 (toList_inj e)) (Ev.const rfl)
 refine Ev.pos (by rw [c3]) (Ev.bind (PathF.texts_ev hl) (Ev.const ?_))
 congr 1
 rw [decide_eq_decide]
 exact ⟨fun e=>⟨c1,e,c2,c3⟩,fun e=>e.2.1⟩
end Go.Proofs.YtochmlkladpfgaaDoor.DrawA
