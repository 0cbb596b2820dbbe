/- What is compared with itself is the same. Condition: not more than a thousand million parts. -/
-- Cut down by a program of this session (wip/tools/prune.py) to what its claim can name.
import Derived.Test.YtochmlkladpfgaaDoorPx6
import Derived.Test.YtochmlkladpfgaaDoorSameA
import Derived.Test.YtochmlkladpfgaaDoorReadI
namespace Go.Proofs.YtochmlkladpfgaaDoor.ReadB
open Go hiding stepT
open Go.RowKit Go.Proofs.YtochmlkladpfgaaDoor.P Go.Proofs.YtochmlkladpfgaaDoor.Lib Go.Proofs.YtochmlkladpfgaaDoor.AddrP Go.Proofs.YtochmlkladpfgaaDoor.AddrF Go.Proofs.YtochmlkladpfgaaDoor.AddrR Go.Proofs.YtochmlkladpfgaaDoor.AddrD Go.Proofs.YtochmlkladpfgaaDoor.DrawA Go.Proofs.YtochmlkladpfgaaDoorW.PrintWords Go.Proofs.YtochmlkladpfgaaDoorW.PrintLast
set_option linter.unusedVariables false
set_option linter.unusedSimpArgs false

/-- Of itself. -/
theorem self_ev {h:ByteArray} {l:List ByteArray} {b:Bool} {q:ByteArray} (hl:l.length ≤ 1000000000):Ev (fun k=>laws_lpAddr.f k h l b q h l b q) true:=by
 have S:=same_ev (h:=h) (l:=l) (b:=b) (q:=q) (h':=h) (l':=l) (b':=b) (q':=q) hl
 rwa [decide_eq_true ⟨rfl,rfl,rfl,rfl⟩] at S
end Go.Proofs.YtochmlkladpfgaaDoor.ReadB
