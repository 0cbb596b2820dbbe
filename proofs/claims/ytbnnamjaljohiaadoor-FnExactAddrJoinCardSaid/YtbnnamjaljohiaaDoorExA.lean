/- What the laws' helpers answer that measure and copy addresses. Condition: none. -/
-- Cut down by a program of this session (wip/tools/prune.py) to what its claim can name.
import Derived.Test.YtbnnamjaljohiaaDoorPx10
import Derived.Test.YtbnnamjaljohiaaDoorExS
import Derived.Test.YtbnnamjaljohiaaDoorEqA
import Derived.Test.YtbnnamjaljohiaaDoorAddrS
namespace Go.Proofs.YtbnnamjaljohiaaDoor.ExA
open Go hiding stepT
open Go.RowKit Go.Proofs.YtbnnamjaljohiaaDoor.P Go.Proofs.YtbnnamjaljohiaaDoor.Lib Go.Proofs.YtbnnamjaljohiaaDoor.AddrF Go.Proofs.YtbnnamjaljohiaaDoorW.PrintWords Go.Proofs.YtbnnamjaljohiaaDoorW.PrintLast
set_option linter.unusedVariables false
set_option linter.unusedSimpArgs false

theorem tot_sum (l:List ByteArray):tot l = l.length + ExS.sum l:=by
 induction l with
 | nil=>rfl
 | cons p l ih=>rw [ExS.sum_cons,List.length_cons];simp [tot] at ih ⊢;omega
theorem sz_ev {h:ByteArray} {l:List ByteArray} {b:Bool} {q:ByteArray} (hh:h.size ≤ maxLen) (hm:l.length ≤ maxLen) (hs:∀ r ∈ l,r.size ≤ maxLen) (hq:q.size ≤ maxLen) :
  ∃ r,Ev (fun k=>laws_szAddr.f k h l b q 1048576) r ∧ (¬ r < 0 → h.size ≤ 1048576 ∧ tot l ≤ 1048576 ∧ l.length ≤ 1048576 ∧ q.size ≤ 1048576):=by
 have hh':=hh;have hq':=hq
 unfold maxLen at hh' hq'
 have w1:wrap64 (1048576 - (h.size:Int)) = 1048576 - h.size:=w64 (by omega) (by omega)
 unfold laws_szAddr.f
 rw [w1]
 by_cases c:(1048576:Int) - h.size < 0
 ·exact ⟨-1,Ev.pos c (Ev.const rfl),fun h=>absurd (by decide) h⟩
 obtain ⟨r,hr,hr2⟩:=ExS.sz_ev hm hs (m:=1048576 - h.size) (by omega) (by omega)
 by_cases n:r < 0
 ·exact ⟨-1,Ev.neg c (Ev.bind hr (Ev.pos n (Ev.const rfl))),fun h=>absurd (by decide) h⟩
 obtain ⟨r0,r1⟩:=hr2 n
 have w2:wrap64 (r - (q.size:Int)) = r - q.size:=w64 (by omega) (by omega)
 by_cases g:r - (q.size:Int) < 0
 ·refine ⟨-1,Ev.neg c (Ev.bind hr (Ev.neg n (Ev.pos (by rw [w2];exact g) (Ev.const rfl)))),fun h=>absurd (by decide) h⟩
 ·have ht:=tot_sum l
  refine ⟨r - q.size,Ev.neg c (Ev.bind hr (Ev.neg n (Ev.neg (by rw [w2];exact g) (Ev.const (by rw [w2]))))),fun _=>⟨by omega,by omega,by omega,by omega⟩⟩
theorem to_ev {h:ByteArray} {l:List ByteArray} {b:Bool} {q:ByteArray} (hl:l.length ≤ 1048576):Ev (fun k=>laws_toAddr.f k h l b q) (h,l,b,q):=by
 unfold laws_toAddr.f
 exact Ev.bind (ExS.to_ev hl) (Ev.const rfl)
end Go.Proofs.YtbnnamjaljohiaaDoor.ExA
