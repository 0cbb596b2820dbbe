/- What the program says of an address's way. Condition: texts of at most ten million bytes. -/
-- Cut down by a program of this session (wip/tools/prune.py) to what its claim can name.
import Derived.Test.YtbnnamjaljohiaaDoorPx9
import Derived.Test.YtbnnamjaljohiaaDoorAddrI
namespace Go.Proofs.YtbnnamjaljohiaaDoor.AddrI
open Go hiding stepT
open Go.RowKit Go.Proofs.YtbnnamjaljohiaaDoor.P Go.Proofs.YtbnnamjaljohiaaDoor.Lib Go.Proofs.YtbnnamjaljohiaaDoor.CutP Go.Proofs.YtbnnamjaljohiaaDoor.AddrP Go.Proofs.YtbnnamjaljohiaaDoor.AddrF Go.Proofs.YtbnnamjaljohiaaDoorW.PrintWords Go.Proofs.YtbnnamjaljohiaaDoorW.PrintLast
open Go.Proofs.YtbnnamjaljohiaaDoor.EscP (escN)
set_option linter.unusedVariables false
set_option linter.unusedSimpArgs false

theorem addrPath_ev {h:ByteArray} {l:List ByteArray} {b:Bool} {q:ByteArray} (hh:h.size ≤ 10000000) (hl:tot l ≤ 10000000) (hq:q.size ≤ 10000000) :
  ∃ r,Ev (fun k=>impl_AddrPath.f k h l b q) r ∧ L r = if ok (adOf h l b q) then pathT (adOf h l b q) else []:=by
 unfold impl_AddrPath.f
 have O:=ok_ev (b:=b) hh hl hq
 cases hok:ok (adOf h l b q) with
 | true =>
  obtain ⟨r,hr,e,_⟩:=path_ev (h:=h) (b:=b) hl hq
  rw [hok] at O
  exact ⟨r,Ev.bind O (Ev.pos rfl (Ev.const (by rw [hr,Option.bind_some]))),by rw [if_pos rfl];exact e⟩
 | false =>
  rw [hok] at O
  exact ⟨_,Ev.bind O (Ev.neg Bool.false_ne_true (Ev.const rfl)),by rw [if_neg Bool.false_ne_true];rfl⟩

end Go.Proofs.YtbnnamjaljohiaaDoor.AddrI
