/- By a whole address one comes to that address. Condition: none. -/
-- Cut down by a program of this session (wip/tools/prune.py) to what its claim can name.
import Derived.Test.YtbnnamjaljohiaaDoorPx11
import Derived.Test.YtbnnamjaljohiaaDoorPx7
import Derived.Test.YtbnnamjaljohiaaDoorJoinS
import Derived.Test.YtbnnamjaljohiaaDoorDrawJ
namespace Go.Proofs.YtbnnamjaljohiaaDoor.Pure
open Go hiding stepT
open Go.RowKit Go.Proofs.YtbnnamjaljohiaaDoor.P Go.Proofs.YtbnnamjaljohiaaDoor.Lib Go.Proofs.YtbnnamjaljohiaaDoor.Draw Go.Proofs.YtbnnamjaljohiaaDoor.AddrP Go.Proofs.YtbnnamjaljohiaaDoor.AddrF Go.Proofs.YtbnnamjaljohiaaDoor.AddrR Go.Proofs.YtbnnamjaljohiaaDoor.DrawA Go.Proofs.YtbnnamjaljohiaaDoor.ReadB Go.Proofs.YtbnnamjaljohiaaDoorW.PrintWords Go.Proofs.YtbnnamjaljohiaaDoorW.PrintLast
set_option linter.unusedVariables false
set_option linter.unusedSimpArgs false

theorem drawn2 {l:List Int} (hw:∀ x ∈ l,(Lit.int .u8 x).wf = true):∃ h ps b q,Ev (fun k=>spec_DrawAddrText.f k l) (h,ps,b,q) ∧ Small h ps q:=by
 obtain ⟨l',ho,hc⟩:=open_ev hw
 obtain ⟨h,ps,b,q,p',he,hs,_⟩:=drawn_struct hc (p:=0) (by omega) (by omega)
 refine ⟨h,ps,b,q,?_,hs⟩
 unfold spec_DrawAddrText.f
 exact Ev.bind0 ho (Ev.bind he (Ev.const rfl))
theorem FnJoinWhole:laws_FnJoinWhole.Pure:=by
 intro l l2 hm hb hw hm2 hb2 hw2
 apply Ev.rounds
 unfold laws_FnJoinWhole.f
 have far0:Ev (fun k=>laws_FnJoinWhole.j0 k l l2 true) true:=Ev.step (f:=fun _=>some true) (fun k=>by simp only [laws_FnJoinWhole.j0];rw [if_pos (by first|trivial|rfl)]) (Ev.const rfl)
 by_cases c:(l.length:Int) > 1048576
 ·exact Ev.pos c far0
 refine Ev.neg c ?_
 by_cases c2:(l2.length:Int) > 1048576
 ·rw [decide_eq_true c2];exact far0
 rw [decide_eq_false c2]
 obtain ⟨h,ps,b,q,s,hd,⟨z1,z2,z3⟩,z4⟩:=DrawJ.drawn hw
 obtain ⟨h',ps',b',q',hd',z1',z2',z3'⟩:=drawn2 hw2
 have hlen:=len_tot ps
 have hlen':=len_tot ps'
 obtain ⟨r,hs,hi,ha,s1,s2,hl,s3⟩:=JoinS.both_ev (h:=h) (l:=ps) (b:=b) (q:=q) (s:=s) (by omega) (by omega) (by omega) (by omega)
 have S:=self_ev (h:=r.1) (l:=r.2.1) (b:=r.2.2.1) (q:=r.2.2.2.1) (by omega)
 have K:=AddrF.ok_ev (h:=h) (l:=ps) (b:=b) (q:=q) (by omega) (by omega) (by omega)
 have K':=AddrF.ok_ev (h:=h') (l:=ps') (b:=b') (q:=q') (by omega) (by omega) (by omega)
 have far:Ev (fun k=>laws_FnJoinWhole.j1 k r.2.2.2.2 r.2.2.2.2 true h ps b q h' ps' b' q' r.1 r.2.1 r.2.2.1 r.2.2.2.1 r.1 r.2.1 r.2.2.1 r.2.2.2.1) true :=
  Ev.step (f:=fun k=>(if (r.2.2.2.2 == r.2.2.2.2) = true then ((laws_lpAddr.f k r.1 r.2.1 r.2.2.1 r.2.2.2.1 r.1 r.2.1 r.2.2.1 r.2.2.2.1).bind fun t738=>(some t738)) else (none))) (fun k=>by simp only [laws_FnJoinWhole.j1];rw [if_pos (by first|trivial|rfl)]) (Ev.pos (by simp) (Ev.bind S (Ev.const rfl)))
 refine Ev.step (fun k=>by simp only [laws_FnJoinWhole.j0];rw [if_neg (by simp)]) (Ev.bind hd (Ev.bind hd' (Ev.bind hs (Ev.bind hi (Ev.neg (show ¬ (r.2.2.2.2 != r.2.2.2.2) = true by simp) (Ev.bind S (Ev.pos rfl (Ev.bind K ?_))))))))
 cases hok:ok (adOf h ps b q) with
 | false=>exact Ev.neg (by simp) far
 | true =>
  refine Ev.pos rfl (Ev.bind K' ?_)
  show Ev (fun k=>laws_FnJoinWhole.j1 k r.2.2.2.2 r.2.2.2.2 (!ok (adOf h' ps' b' q')) h ps b q h' ps' b' q' r.1 r.2.1 r.2.2.1 r.2.2.2.1 r.1 r.2.1 r.2.2.1 r.2.2.2.1) true
  cases hok':ok (adOf h' ps' b' q') with
  | false=>exact far
  | true =>
   have O:=(ok_iff _).mp hok
   have O':=(ok_iff _).mp hok'
   obtain ⟨t,ht,et⟩:=AddrI.addrText_ev (h:=h') (l:=ps') (b:=b') (q:=q') (by omega) (by omega) (by omega)
   rw [hok',if_pos rfl] at et
   obtain ⟨v,hv,va⟩:=JoinS.impl_ev (h:=h) (l:=ps) (b:=b) (q:=q) (s:=t) (by omega) (by omega) (by omega)
   rw [et,join_whole O O' (adOf_rng _ _ _ _)] at va
   have w:IsAd (h',ps',b',q',true) (some (adOf h' ps' b' q')):=⟨rfl,rfl⟩
   obtain rfl:=va.one w
   have S2:=self_ev (h:=h') (l:=ps') (b:=b') (q:=q') (by omega)
   exact Ev.step (fun k=>by simp only [laws_FnJoinWhole.j1];rw [if_neg (by simp)]) (Ev.bind ht (Ev.bind hv (Ev.pos rfl (Ev.bind S2 (Ev.const rfl)))))

end Go.Proofs.YtbnnamjaljohiaaDoor.Pure
