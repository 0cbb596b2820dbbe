/- What is compared with itself is the same. Condition: not more than a thousand million parts. -/
-- Cut down by a program of this session (wip/tools/prune.py) to what its claim can name.
import Derived.Test.YtbnnamjaljohiaaDoorPx7
import Derived.Test.YtbnnamjaljohiaaDoorDrawA
import Derived.Test.YtbnnamjaljohiaaDoorReadI
namespace Go.Proofs.YtbnnamjaljohiaaDoor.ReadB
open Go hiding stepT
open Go.RowKit Go.Proofs.YtbnnamjaljohiaaDoor.P Go.Proofs.YtbnnamjaljohiaaDoor.Lib Go.Proofs.YtbnnamjaljohiaaDoor.AddrP Go.Proofs.YtbnnamjaljohiaaDoor.AddrF Go.Proofs.YtbnnamjaljohiaaDoor.AddrR Go.Proofs.YtbnnamjaljohiaaDoor.AddrD Go.Proofs.YtbnnamjaljohiaaDoor.DrawA Go.Proofs.YtbnnamjaljohiaaDoorW.PrintWords Go.Proofs.YtbnnamjaljohiaaDoorW.PrintLast
set_option linter.unusedVariables false
set_option linter.unusedSimpArgs false

theorem self_ev {h:ByteArray} {l:List ByteArray} {b:Bool} {q:ByteArray} (hl:l.length ≤ 1000000000):Ev (fun k=>laws_lpAddr.f k h l b q h l b q) true:=by
 have S:=same_ev (h:=h) (l:=l) (b:=b) (q:=q) (h':=h) (l':=l) (b':=b) (q':=q) hl
 rwa [decide_eq_true ⟨rfl,rfl,rfl,rfl⟩] at S
end Go.Proofs.YtbnnamjaljohiaaDoor.ReadB
