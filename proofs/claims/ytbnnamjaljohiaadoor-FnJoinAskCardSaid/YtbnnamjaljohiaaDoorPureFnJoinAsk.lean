/- Asking alone: the same house and parts. Condition: none. -/
-- Cut down by a program of this session (wip/tools/prune.py) to what its claim can name.
import Derived.Test.YtbnnamjaljohiaaDoorPx12
import Derived.Test.YtbnnamjaljohiaaDoorPx6
import Derived.Test.YtbnnamjaljohiaaDoorPx7
import Derived.Test.YtbnnamjaljohiaaDoorJoinS
import Derived.Test.YtbnnamjaljohiaaDoorDrawJ
namespace Go.Proofs.YtbnnamjaljohiaaDoor.Pure
open Go hiding stepT
open Go.RowKit Go.Proofs.YtbnnamjaljohiaaDoor.P Go.Proofs.YtbnnamjaljohiaaDoor.Lib Go.Proofs.YtbnnamjaljohiaaDoor.AddrP Go.Proofs.YtbnnamjaljohiaaDoor.AddrF Go.Proofs.YtbnnamjaljohiaaDoor.AddrR Go.Proofs.YtbnnamjaljohiaaDoor.DrawA Go.Proofs.YtbnnamjaljohiaaDoor.ReadB Go.Proofs.YtbnnamjaljohiaaDoorW.PrintWords Go.Proofs.YtbnnamjaljohiaaDoorW.PrintLast
set_option linter.unusedVariables false
set_option linter.unusedSimpArgs false

theorem FnJoinAsk:laws_FnJoinAsk.Pure:=by
 intro l hm hb hw
 apply Ev.rounds
 unfold laws_FnJoinAsk.f
 by_cases c:(l.length:Int) > 1048576
 ·exact Ev.pos c (Ev.const rfl)
 obtain ⟨h,ps,b,q,s,hd,⟨z1,z2,z3⟩,z4⟩:=DrawJ.drawn hw
 have hlen:=len_tot ps
 obtain ⟨r,hs,hi,ha,s1,s2,hl,s3⟩:=JoinS.both_ev (h:=h) (l:=ps) (b:=b) (q:=q) (s:=s) (by omega) (by omega) (by omega) (by omega)
 have S:=self_ev (h:=r.1) (l:=r.2.1) (b:=r.2.2.1) (q:=r.2.2.2.1) (by omega)
 have K:=AddrF.ok_ev (h:=h) (l:=ps) (b:=b) (q:=q) (by omega) (by omega) (by omega)
 refine Ev.neg c (Ev.bind hd (Ev.bind hs (Ev.bind hi (Ev.neg (by simp) (Ev.bind S (Ev.pos rfl (Ev.bind K ?_)))))))
 show Ev (fun k=>laws_FnJoinAsk.j0 k r.2.2.2.2 r.2.2.2.2 (!ok (adOf h ps b q)) h ps b q r.1 r.2.1 r.2.2.1 r.2.2.2.1 r.1 r.2.1 r.2.2.1 r.2.2.2.1) true
 cases hok:ok (adOf h ps b q) with
 | false=>exact Ev.step (f:=fun k=>(if (r.2.2.2.2 == r.2.2.2.2) = true then ((laws_lpAddr.f k r.1 r.2.1 r.2.2.1 r.2.2.2.1 r.1 r.2.1 r.2.2.1 r.2.2.2.1).bind fun t738=>(some t738)) else (some false))) (fun k=>by simp only [laws_FnJoinAsk.j0];rw [if_pos (by rfl)]) (Ev.pos (by simp) (Ev.bind S (Ev.const rfl)))
 | true =>
  obtain ⟨v,hv,va⟩:=JoinS.impl_ev (h:=h) (l:=ps) (b:=b) (q:=q) (s:=(⟨#[63,113]⟩:ByteArray)) (by omega) (by omega) (by omega)
  refine Ev.step (f:=fun k=>((impl_AddrJoin.f k h ps b q (⟨#[63,113]⟩:ByteArray)).bind fun bt739=>(if bt739.2.2.2.2 = true then ((laws_lpAddr.f k bt739.1 bt739.2.1 bt739.2.2.1 bt739.2.2.2.1 h ps true (⟨#[113]⟩:ByteArray)).bind fun t747=>(some t747)) else (some true)))) (fun k=>by simp only [laws_FnJoinAsk.j0];rw [if_neg (by simp)]) (Ev.bind hv ?_)
  rw [show L (⟨#[63,113]⟩:ByteArray) = [63,113] from rfl] at va
  cases hj:joinA (adOf h ps b q) [63,113] with
  | none =>
   rw [hj] at va
   have h5:v.2.2.2.2 = false:=by rw [show v = noAd from va];rfl
   exact Ev.neg (by rw [h5];simp) (Ev.const rfl)
  | some a =>
   have hx:=join_ask ((ok_iff _).mp hok) hj
   rw [hj] at va
   obtain ⟨h5,e⟩:=va
   rw [hx] at e
   obtain ⟨e1,e2,e3,e4⟩:=adOf_inj (h':=h) (l':=ps) (b':=true) (q':=(⟨#[113]⟩:ByteArray)).mp e
   have S2:=same_ev (h:=v.1) (l:=v.2.1) (b:=v.2.2.1) (q:=v.2.2.2.1) (h':=h) (l':=ps) (b':=true) (q':=(⟨#[113]⟩:ByteArray)) (by rw [e2];omega)
   rw [decide_eq_true ⟨e1,e2,e3,e4⟩] at S2
   exact Ev.pos h5 (Ev.bind S2 (Ev.const rfl))

end Go.Proofs.YtbnnamjaljohiaaDoor.Pure
