/- Whether two addresses are the same, as the laws' helpers ask it: each is itself. Condition: none. -/
-- Cut down by a program of this session (wip/tools/prune.py) to what its claim can name.
import Derived.Test.YtbnnamjaljohiaaDoorPx10
import Derived.Test.YtbnnamjaljohiaaDoorEqS
namespace Go.Proofs.YtbnnamjaljohiaaDoor.ExA
open Go hiding stepT
open Go.RowKit Go.Proofs.YtbnnamjaljohiaaDoor.P Go.Proofs.YtbnnamjaljohiaaDoor.Lib Go.Proofs.YtbnnamjaljohiaaDoorW.PrintWords Go.Proofs.YtbnnamjaljohiaaDoorW.PrintLast
set_option linter.unusedVariables false
set_option linter.unusedSimpArgs false

theorem eq_ev {h:ByteArray} {l:List ByteArray} {b:Bool} {q:ByteArray} (hl:l.length ≤ 1048576):Ev (fun k=>laws_eqAddr.f k h l b q h l b q) true:=by
 unfold laws_eqAddr.f
 exact Ev.pos rfl (Ev.bind (ExS.eq_ev hl) (Ev.pos rfl (Ev.neg (by simp) (Ev.pos rfl (Ev.const rfl)))))
end Go.Proofs.YtbnnamjaljohiaaDoor.ExA
