/- Drawn addresses, some spoilt; whether two addresses are the same, as the laws ask it. Condition: none. -/
-- Cut down by a program of this session (wip/tools/prune.py) to what its claim can name.
import Derived.Test.YtochmlkladpfgaaDoorPx0
import Derived.Test.YtochmlkladpfgaaDoorPx7
import Derived.Test.YtochmlkladpfgaaDoorPx13
import Derived.Test.YtochmlkladpfgaaDoorPx8
import Derived.Test.YtochmlkladpfgaaDoorPx10
import Derived.Test.YtochmlkladpfgaaDoorPx2
import Derived.Test.YtochmlkladpfgaaDoorPx5
import Derived.Test.YtochmlkladpfgaaDoorAddrS
import Derived.Test.YtochmlkladpfgaaDoorLib
namespace Go.Proofs.YtochmlkladpfgaaDoor.DrawA
open Go hiding stepT
open Go.RowKit Go.Proofs.YtochmlkladpfgaaDoor.P Go.Proofs.YtochmlkladpfgaaDoor.Lib Go.Proofs.YtochmlkladpfgaaDoor.CutP Go.Proofs.YtochmlkladpfgaaDoor.AddrP Go.Proofs.YtochmlkladpfgaaDoor.AddrF Go.Proofs.YtochmlkladpfgaaDoor.AddrR Go.Proofs.YtochmlkladpfgaaDoor.AddrD Go.Proofs.YtochmlkladpfgaaDoorW.PrintWords Go.Proofs.YtochmlkladpfgaaDoorW.PrintLast
set_option linter.unusedVariables false
set_option linter.unusedSimpArgs false

/-- Not long. -/
def Small (h : ByteArray) (l : List ByteArray) (q : ByteArray) : Prop := h.size ≤ 60 ∧ tot l ≤ 200 ∧ q.size ≤ 60
end Go.Proofs.YtochmlkladpfgaaDoor.DrawA
