/- Drawn addresses, some spoilt; whether two addresses are the same, as the laws ask it. Condition: none. -/
-- Cut down by a program of this session (wip/tools/prune.py) to what its claim can name.
import Derived.Test.YtbnnamjaljohiaaDoorPx6
import Derived.Test.YtbnnamjaljohiaaDoorSq
import Derived.Test.YtbnnamjaljohiaaDoorPx0
import Derived.Test.YtbnnamjaljohiaaDoorAddrS
import Derived.Test.YtbnnamjaljohiaaDoorLib
namespace Go.Proofs.YtbnnamjaljohiaaDoor.DrawA
open Go hiding stepT
open Go.RowKit Go.Proofs.YtbnnamjaljohiaaDoor.P Go.Proofs.YtbnnamjaljohiaaDoor.Lib Go.Proofs.YtbnnamjaljohiaaDoor.CutP Go.Proofs.YtbnnamjaljohiaaDoor.AddrP Go.Proofs.YtbnnamjaljohiaaDoor.AddrF Go.Proofs.YtbnnamjaljohiaaDoor.AddrR Go.Proofs.YtbnnamjaljohiaaDoor.AddrD Go.Proofs.YtbnnamjaljohiaaDoorW.PrintWords Go.Proofs.YtbnnamjaljohiaaDoorW.PrintLast
set_option linter.unusedVariables false
set_option linter.unusedSimpArgs false

def Small (h:ByteArray) (l:List ByteArray) (q:ByteArray):Prop:=h.size ≤ 60 ∧ tot l ≤ 200 ∧ q.size ≤ 60
end Go.Proofs.YtbnnamjaljohiaaDoor.DrawA
