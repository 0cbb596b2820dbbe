/- Whether two addresses are the same, as the laws' helpers ask it: each is itself. Condition: none. -/
import Derived.Test.YtochmlkladpfgaaDoorPx22
import Derived.Test.YtochmlkladpfgaaDoorEqS
namespace Go.Proofs.YtochmlkladpfgaaDoor.ExA
open Go hiding stepT
open Go.RowKit Go.Proofs.YtochmlkladpfgaaDoor.P Go.Proofs.YtochmlkladpfgaaDoor.Lib Go.Proofs.YtochmlkladpfgaaDoorW.PrintWords Go.Proofs.YtochmlkladpfgaaDoorW.PrintLast
set_option linter.unusedVariables false
set_option linter.unusedSimpArgs false

theorem eq_ev {h : ByteArray} {l : List ByteArray} {b : Bool} {q : ByteArray} (hl : l.length ≤ 1048576) : Ev (fun k => laws_eqAddr.f k h l b q h l b q) true := by
  unfold laws_eqAddr.f
  exact Ev.pos rfl (Ev.bind (ExS.eq_ev hl) (Ev.pos rfl (Ev.neg (by simp) (Ev.pos rfl (Ev.const rfl)))))
end Go.Proofs.YtochmlkladpfgaaDoor.ExA
