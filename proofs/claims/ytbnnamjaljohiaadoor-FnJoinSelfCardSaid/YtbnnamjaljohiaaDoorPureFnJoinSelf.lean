/- By nothing, by a cross and by one's own way one stays where one is. Condition: none. -/
-- Cut down by a program of this session (wip/tools/prune.py) to what its claim can name.
import Derived.Test.YtbnnamjaljohiaaDoorPx7
import Derived.Test.YtbnnamjaljohiaaDoorPx9
import Derived.Test.YtbnnamjaljohiaaDoorJoinS
import Derived.Test.YtbnnamjaljohiaaDoorDrawJ
import Derived.Test.YtbnnamjaljohiaaDoorAddrX
namespace Go.Proofs.YtbnnamjaljohiaaDoor.Pure
open Go hiding stepT
open Go.RowKit Go.Proofs.YtbnnamjaljohiaaDoor.P Go.Proofs.YtbnnamjaljohiaaDoor.Lib Go.Proofs.YtbnnamjaljohiaaDoor.AddrP Go.Proofs.YtbnnamjaljohiaaDoor.AddrF Go.Proofs.YtbnnamjaljohiaaDoor.AddrR Go.Proofs.YtbnnamjaljohiaaDoor.DrawA Go.Proofs.YtbnnamjaljohiaaDoor.ReadB Go.Proofs.YtbnnamjaljohiaaDoorW.PrintWords Go.Proofs.YtbnnamjaljohiaaDoorW.PrintLast
set_option linter.unusedVariables false
set_option linter.unusedSimpArgs false

theorem FnJoinSelf:laws_FnJoinSelf.Pure:=by
 intro l hm hb hw
 apply Ev.rounds
 unfold laws_FnJoinSelf.f
 by_cases c:(l.length:Int) > 1048576
 ·exact Ev.pos c (Ev.const rfl)
 obtain ⟨h,ps,b,q,s,hd,⟨z1,z2,z3⟩,z4⟩:=DrawJ.drawn hw
 have hlen:=len_tot ps
 obtain ⟨r,hs,hi,ha,s1,s2,hl,s3⟩:=JoinS.both_ev (h:=h) (l:=ps) (b:=b) (q:=q) (s:=s) (by omega) (by omega) (by omega) (by omega)
 have S:=self_ev (h:=r.1) (l:=r.2.1) (b:=r.2.2.1) (q:=r.2.2.2.1) (by omega)
 have K:=AddrF.ok_ev (h:=h) (l:=ps) (b:=b) (q:=q) (by omega) (by omega) (by omega)
 refine Ev.neg c (Ev.bind hd (Ev.bind hs (Ev.bind hi (Ev.neg (by simp) (Ev.bind S (Ev.pos rfl (Ev.bind K ?_)))))))
 show Ev (fun k=>laws_FnJoinSelf.j0 k r.2.2.2.2 r.2.2.2.2 (!ok (adOf h ps b q)) h ps b q r.1 r.2.1 r.2.2.1 r.2.2.2.1 r.1 r.2.1 r.2.2.1 r.2.2.2.1) true
 cases hok:ok (adOf h ps b q) with
 | false=>exact Ev.step (f:=fun k=>(if (r.2.2.2.2 == r.2.2.2.2) = true then ((laws_lpAddr.f k r.1 r.2.1 r.2.2.1 r.2.2.2.1 r.1 r.2.1 r.2.2.1 r.2.2.2.1).bind fun t738=>(some t738)) else (none))) (fun k=>by simp only [laws_FnJoinSelf.j0];rw [if_pos (by rfl)]) (Ev.pos (by simp) (Ev.bind S (Ev.const rfl)))
 | true =>
  have O:=(ok_iff _).mp hok
  have stay:∀ t:ByteArray,joinA (adOf h ps b q) (L t) = some (adOf h ps b q) → Ev (fun k=>impl_AddrJoin.f k h ps b q t) (h,ps,b,q,true):=by
   intro t ht
   obtain ⟨v,hv,va⟩:=JoinS.impl_ev (h:=h) (l:=ps) (b:=b) (q:=q) (s:=t) (by omega) (by omega) (by omega)
   rw [ht] at va
   have w:IsAd (h,ps,b,q,true) (some (adOf h ps b q)):=⟨rfl,rfl⟩
   obtain rfl:=va.one w
   exact hv
  obtain ⟨t,ht,et⟩:=AddrI.addrPath_ev (h:=h) (l:=ps) (b:=b) (q:=q) (by omega) (by omega) (by omega)
  rw [hok,if_pos rfl] at et
  have a1:=stay (⟨#[]⟩:ByteArray) (join_nil O)
  have a2:=stay (⟨#[35,116,104,101,114,101]⟩:ByteArray) (join_there O [116,104,101,114,101] (by simp))
  have a3:=stay t (by rw [et];exact join_path O (adOf_rng _ _ _ _))
  have S2:=self_ev (h:=h) (l:=ps) (b:=b) (q:=q) (by omega)
  exact Ev.step (fun k=>by simp only [laws_FnJoinSelf.j0];rw [if_neg (by simp)]) (Ev.bind a1 (Ev.bind a2 (Ev.bind ht (Ev.bind a3 (Ev.pos rfl (Ev.bind S2 (Ev.pos rfl (Ev.pos rfl (Ev.bind S2 (Ev.pos rfl (Ev.pos rfl (Ev.bind S2 (Ev.const rfl)))))))))))))

end Go.Proofs.YtbnnamjaljohiaaDoor.Pure
