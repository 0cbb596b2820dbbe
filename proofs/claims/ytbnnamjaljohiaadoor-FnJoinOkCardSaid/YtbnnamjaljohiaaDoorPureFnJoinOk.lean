/- What one comes to is ok, and of the same house if the reference names none. Condition: none. -/
-- Cut down by a program of this session (wip/tools/prune.py) to what its claim can name.
import Derived.Test.YtbnnamjaljohiaaDoorPx14
import Derived.Test.YtbnnamjaljohiaaDoorPx4
import Derived.Test.YtbnnamjaljohiaaDoorPx6
import Derived.Test.YtbnnamjaljohiaaDoorJoinS
import Derived.Test.YtbnnamjaljohiaaDoorDrawJ
namespace Go.Proofs.YtbnnamjaljohiaaDoor.Pure
open Go hiding stepT
open Go.RowKit Go.Proofs.YtbnnamjaljohiaaDoor.P Go.Proofs.YtbnnamjaljohiaaDoor.Lib Go.Proofs.YtbnnamjaljohiaaDoor.AddrP Go.Proofs.YtbnnamjaljohiaaDoor.AddrF Go.Proofs.YtbnnamjaljohiaaDoor.AddrR Go.Proofs.YtbnnamjaljohiaaDoor.DrawA Go.Proofs.YtbnnamjaljohiaaDoor.ReadB Go.Proofs.YtbnnamjaljohiaaDoorW.PrintWords Go.Proofs.YtbnnamjaljohiaaDoorW.PrintLast
set_option linter.unusedVariables false
set_option linter.unusedSimpArgs false

theorem FnJoinOk:laws_FnJoinOk.Pure:=by
 intro l hm hb hw
 apply Ev.rounds
 unfold laws_FnJoinOk.f
 by_cases c:(l.length:Int) > 1048576
 ·exact Ev.pos c (Ev.const rfl)
 obtain ⟨h,ps,b,q,s,hd,⟨z1,z2,z3⟩,z4⟩:=DrawJ.drawn hw
 have hlen:=len_tot ps
 obtain ⟨r,hs,hi,ha,s1,s2,hl,s3⟩:=JoinS.both_ev (h:=h) (l:=ps) (b:=b) (q:=q) (s:=s) (by omega) (by omega) (by omega) (by omega)
 have S:=self_ev (h:=r.1) (l:=r.2.1) (b:=r.2.2.1) (q:=r.2.2.2.1) (by omega)
 refine Ev.neg c (Ev.bind hd (Ev.bind hs (Ev.bind hi (Ev.neg (by simp) (Ev.bind S (Ev.pos rfl ?_))))))
 show Ev (fun k=>laws_FnJoinOk.j0 k s r.2.2.2.2 r.2.2.2.2 (!r.2.2.2.2) h ps b q r.1 r.2.1 r.2.2.1 r.2.2.2.1 r.1 r.2.1 r.2.2.1 r.2.2.2.1) true
 cases hj:joinA (adOf h ps b q) (L s) with
 | none =>
  rw [hj] at ha
  have h5:r.2.2.2.2 = false:=by rw [show r = noAd from ha];rfl
  rw [h5]
  exact Ev.step (f:=fun k=>(if (false == false) = true then ((laws_lpAddr.f k r.1 r.2.1 r.2.2.1 r.2.2.2.1 r.1 r.2.1 r.2.2.1 r.2.2.2.1).bind fun t831=>(some t831)) else (some false))) (fun k=>by simp only [laws_FnJoinOk.j0];rw [if_pos (by rfl)]) (Ev.pos (by simp) (Ev.bind S (Ev.const rfl)))
 | some a =>
  rw [hj] at ha
  obtain ⟨h5,e⟩:=ha
  obtain ⟨hO,hH⟩:=join_ok hj
  rw [← e] at hO hH
  have K:=AddrI.ok_ev (h:=r.1) (l:=r.2.1) (b:=r.2.2.1) (q:=r.2.2.2.1) (by omega) (by omega) (by omega)
  rw [(ok_iff _).mpr hO] at K
  rw [h5]
  have hpre:(s.extract 0 2).toList = ([47,47]:List UInt8) ↔ (L s).take 2 = [47,47]:=by
   rw [toList_lit,L_extract,List.drop_zero];rfl
  have same:¬ (L s).take 2 = [47,47] → (r.1.toList == h.toList) = true:=by
   intro n
   rcases hH with hh|⟨x,hx⟩
   ·have:L r.1 = L h:=hh
    rw [beq_toList,decide_eq_true this]
   ·exact absurd (by rw [hx];rfl) n
  by_cases h2:(s.size:Int) ≥ 2
  ·have tail:Ev (fun k=>((impl_AddrOk.f k r.1 r.2.1 r.2.2.1 r.2.2.2.1).bind fun t832=>(if t832 = true then (if (s.extract 0 2).toList = ([47,47]:List UInt8) then (some true) else (some (r.1.toList == h.toList))) else (some false)))) true:=by
    refine Ev.bind K (Ev.pos rfl ?_)
    by_cases n:(L s).take 2 = [47,47]
    ·exact Ev.pos (hpre.mpr n) (Ev.const rfl)
    ·exact Ev.neg (fun e=>n (hpre.mp e)) (Ev.const (by rw [same n]))
   exact Ev.step (fun k=>by simp only [laws_FnJoinOk.j0];rw [if_neg (by simp),if_pos h2,if_pos (by omega),if_pos h2]) tail
  ·have n:¬ (L s).take 2 = [47,47]:=fun e=>by
    have:=congrArg List.length e
    simp [L_length] at this
    omega
   exact Ev.step (f:=fun k=>((impl_AddrOk.f k r.1 r.2.1 r.2.2.1 r.2.2.2.1).bind fun t833=>(if t833 = true then (some (r.1.toList == h.toList)) else (some false)))) (fun k=>by simp only [laws_FnJoinOk.j0];rw [if_neg (by simp),if_neg h2]) (Ev.bind K (Ev.pos rfl (Ev.const (by rw [same n]))))

end Go.Proofs.YtbnnamjaljohiaaDoor.Pure
