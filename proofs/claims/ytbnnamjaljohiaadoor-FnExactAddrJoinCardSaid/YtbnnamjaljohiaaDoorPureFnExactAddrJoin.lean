/- Program and reference come to the same from all addresses; what was given stays as it is. Condition: none. -/
-- Cut down by a program of this session (wip/tools/prune.py) to what its claim can name.
import Derived.Test.YtbnnamjaljohiaaDoorPx10
import Derived.Test.YtbnnamjaljohiaaDoorPx11
import Derived.Test.YtbnnamjaljohiaaDoorJoinS
import Derived.Test.YtbnnamjaljohiaaDoorExA
import Derived.Test.YtbnnamjaljohiaaDoorMarkS
namespace Go.Proofs.YtbnnamjaljohiaaDoor.Pure
open Go hiding stepT
open Go.RowKit Go.Proofs.YtbnnamjaljohiaaDoor.P Go.Proofs.YtbnnamjaljohiaaDoor.Lib Go.Proofs.YtbnnamjaljohiaaDoor.AddrP Go.Proofs.YtbnnamjaljohiaaDoor.AddrF Go.Proofs.YtbnnamjaljohiaaDoor.AddrR Go.Proofs.YtbnnamjaljohiaaDoor.ReadB Go.Proofs.YtbnnamjaljohiaaDoorW.PrintWords Go.Proofs.YtbnnamjaljohiaaDoorW.PrintLast
set_option linter.unusedVariables false
set_option linter.unusedSimpArgs false

theorem marked {h:ByteArray} {l:List ByteArray} {b:Bool} {q:ByteArray} (hl:l.length ≤ 1048576):∃ l',Ev (fun k=>laws_markAddr.f k h l b q 1) (1 + (l.length:Int),l') ∧ Ev (fun k=>laws_heldAddr.f k h l' b q 1) (1 + (l.length:Int)):=by
 obtain ⟨l',hk,hz,hM⟩:=MarkS.mark_ev (x:=l) (by omega) (a:=1) (by omega) (by omega)
 have hh:=MarkS.held_ev (l:=l') (by omega) (a:=1) (by omega) (by omega) hM
 rw [hz] at hh
 refine ⟨l',?_,?_⟩
 ·unfold laws_markAddr.f
  exact Ev.bind hk (Ev.const rfl)
 ·unfold laws_heldAddr.f
  exact Ev.bind hh (Ev.neg (by omega) (Ev.const rfl))
theorem FnExactAddrJoin:∀ (a0_0:ByteArray) (l0_1:List ByteArray) (a0_2:Bool) (a0_3:ByteArray) (a1:ByteArray),a0_0.size ≤ maxLen → l0_1.length ≤ maxLen → (∀ x ∈ l0_1,x.size ≤ maxLen) → a0_3.size ≤ maxLen → a1.size ≤ 140737488351232 → ∃ k,laws_FnExactAddrJoin.f k a0_0 l0_1 a0_2 a0_3 a1 = some true:=by
 intro h l b q s hh hm hs hq _
 apply Ev.rounds
 unfold laws_FnExactAddrJoin.f
 by_cases c:(s.size:Int) > 1048576
 ·exact Ev.pos c (Ev.const rfl)
 obtain ⟨n,hn,hb⟩:=ExA.sz_ev (b:=b) hh hm hs hq
 refine Ev.neg c (Ev.bind hn ?_)
 by_cases n0:n < 0
 ·exact Ev.pos n0 (Ev.const rfl)
 obtain ⟨b1,b2,b3,b4⟩:=hb n0
 have T:=ExA.to_ev (h:=h) (b:=b) (q:=q) b3
 have E:=ExA.eq_ev (h:=h) (b:=b) (q:=q) b3
 obtain ⟨r,hsp,him,_,_,_,hl,_⟩:=JoinS.both_ev (h:=h) (l:=l) (b:=b) (q:=q) (s:=s) (by omega) (by omega) (by omega) (by omega)
 have S:=ExA.eq_ev (h:=r.1) (l:=r.2.1) (b:=r.2.2.1) (q:=r.2.2.2.1) (by omega)
 obtain ⟨l',hk,hH⟩:=marked (h:=h) (l:=l) (b:=b) (q:=q) b3
 obtain ⟨m',hk2,hH2⟩:=marked (h:=r.1) (l:=r.2.1) (b:=r.2.2.1) (q:=r.2.2.2.1) (by omega)
 have hx:(r.2.2.2.2 != r.2.2.2.2) = false:=by simp
 have last:Ev (fun k=>laws_FnExactAddrJoin.j2 k (1 + (r.2.1.length:Int)) (r.2.2.2.2 != r.2.2.2.2) r.1 m' r.2.2.1 r.2.2.2.1) true:=by
  rw [hx]
  exact Ev.step (fun k=>by simp only [laws_FnExactAddrJoin.j2];rw [if_neg (by simp)]) (Ev.bind hH2 (Ev.neg (show ¬ (1 + (r.2.1.length:Int)) < 0 by omega) (Ev.pos rfl (Ev.const rfl))))
 have mid:Ev (fun k=>laws_FnExactAddrJoin.j1 k s r.2.2.2.2 (r.2.2.2.2 != r.2.2.2.2) h l b q r.1 r.2.1 r.2.2.1 r.2.2.2.1 r.1 r.2.1 r.2.2.1 r.2.2.2.1) true:=by
  rw [hx]
  exact Ev.step (fun k=>by simp only [laws_FnExactAddrJoin.j1];rw [if_neg (by simp)]) (Ev.bind hk2 (Ev.bind hH2 (Ev.neg (by show ¬ (1 + (r.2.1.length:Int)) < 0;omega) (Ev.pos rfl (Ev.bind T (Ev.bind him (Ev.bind S (Ev.pos rfl last))))))))
 refine Ev.neg n0 (Ev.bind T (Ev.bind hsp (Ev.bind T (Ev.bind him (Ev.bind S (Ev.pos rfl ?_))))))
 show Ev (fun k=>laws_FnExactAddrJoin.j0 k s r.2.2.2.2 r.2.2.2.2 (r.2.2.2.2 != r.2.2.2.2) h l b q r.1 r.2.1 r.2.2.1 r.2.2.2.1 h l b q r.1 r.2.1 r.2.2.1 r.2.2.2.1) true
 rw [hx]
 exact Ev.step (fun k=>by simp only [laws_FnExactAddrJoin.j0];rw [if_neg (by simp)]) (Ev.bind T (Ev.bind E (Ev.pos rfl (Ev.bind hk (Ev.neg (by show ¬ (1 + (l.length:Int)) < 0;omega) (Ev.bind S (Ev.pos rfl mid)))))))

end Go.Proofs.YtbnnamjaljohiaaDoor.Pure
