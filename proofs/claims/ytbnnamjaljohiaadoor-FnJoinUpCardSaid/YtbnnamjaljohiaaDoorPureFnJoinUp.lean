/- By a dot, by two dots and by a stroke: the parts that are left. Condition: none. -/
-- Cut down by a program of this session (wip/tools/prune.py) to what its claim can name.
import Derived.Test.YtbnnamjaljohiaaDoorPx10
import Derived.Test.YtbnnamjaljohiaaDoorPx7
import Derived.Test.YtbnnamjaljohiaaDoorJoinS
import Derived.Test.YtbnnamjaljohiaaDoorDrawJ
namespace Go.Proofs.YtbnnamjaljohiaaDoor.Pure
open Go hiding stepT
open Go.RowKit Go.Proofs.YtbnnamjaljohiaaDoor.P Go.Proofs.YtbnnamjaljohiaaDoor.Lib Go.Proofs.YtbnnamjaljohiaaDoor.AddrP Go.Proofs.YtbnnamjaljohiaaDoor.AddrF Go.Proofs.YtbnnamjaljohiaaDoor.AddrR Go.Proofs.YtbnnamjaljohiaaDoor.DrawA Go.Proofs.YtbnnamjaljohiaaDoor.ReadB Go.Proofs.YtbnnamjaljohiaaDoorW.PrintWords Go.Proofs.YtbnnamjaljohiaaDoorW.PrintLast
set_option linter.unusedVariables false
set_option linter.unusedSimpArgs false

theorem mx_two {α:Type} (l:List α) (h:l.length ≤ 4000000):mx (wrap64 ((l.length:Int) - 2)) 0 = ((l.length - 2:Nat):Int):=by
 rw [w64 (by omega) (by omega)]
 unfold mx
 split <;> omega
theorem FnJoinUp:laws_FnJoinUp.Pure:=by
 intro l hm hb hw
 apply Ev.rounds
 unfold laws_FnJoinUp.f
 by_cases c:(l.length:Int) > 1048576
 ·exact Ev.pos c (Ev.const rfl)
 obtain ⟨h,ps,b,q,s,hd,⟨z1,z2,z3⟩,z4⟩:=DrawJ.drawn hw
 have hlen:=len_tot ps
 obtain ⟨r,hs,hi,ha,s1,s2,hl,s3⟩:=JoinS.both_ev (h:=h) (l:=ps) (b:=b) (q:=q) (s:=s) (by omega) (by omega) (by omega) (by omega)
 have S:=self_ev (h:=r.1) (l:=r.2.1) (b:=r.2.2.1) (q:=r.2.2.2.1) (by omega)
 have K:=AddrF.ok_ev (h:=h) (l:=ps) (b:=b) (q:=q) (by omega) (by omega) (by omega)
 refine Ev.neg c (Ev.bind hd (Ev.bind hs (Ev.bind hi (Ev.neg (by simp) (Ev.bind S (Ev.pos rfl (Ev.bind K ?_)))))))
 show Ev (fun k=>laws_FnJoinUp.j0 k r.2.2.2.2 r.2.2.2.2 (!ok (adOf h ps b q)) h ps b q r.1 r.2.1 r.2.2.1 r.2.2.2.1 r.1 r.2.1 r.2.2.1 r.2.2.2.1) true
 cases hok:ok (adOf h ps b q) with
 | false=>exact Ev.step (f:=fun k=>(if (r.2.2.2.2 == r.2.2.2.2) = true then ((laws_lpAddr.f k r.1 r.2.1 r.2.2.1 r.2.2.2.1 r.1 r.2.1 r.2.2.1 r.2.2.2.1).bind fun t738=>(some t738)) else (none))) (fun k=>by simp only [laws_FnJoinUp.j0];rw [if_pos (by first|trivial|rfl)]) (Ev.pos (by simp) (Ev.bind S (Ev.const rfl)))
 | true =>
  have O:=(ok_iff _).mp hok
  have come:∀ (t:ByteArray) (l':List ByteArray),joinA (adOf h ps b q) (L t) = some (adOf h l' false (⟨#[]⟩:ByteArray)) → Ev (fun k=>impl_AddrJoin.f k h ps b q t) (h,l',false,(⟨#[]⟩:ByteArray),true):=by
   intro t l' ht
   obtain ⟨v,hv,va⟩:=JoinS.impl_ev (h:=h) (l:=ps) (b:=b) (q:=q) (s:=t) (by omega) (by omega) (by omega)
   rw [ht] at va
   have w:IsAd (h,l',false,(⟨#[]⟩:ByteArray),true) (some (adOf h l' false (⟨#[]⟩:ByteArray))):=⟨rfl,rfl⟩
   obtain rfl:=va.one w
   exact hv
  have a1:=come (⟨#[46]⟩:ByteArray) ps.dropLast (by
   rw [show L (⟨#[46]⟩:ByteArray) = [46] from rfl,join_dot O]
   unfold adOf;rw [JoinS.map_dropLast];rfl)
  have a2:=come (⟨#[46,46]⟩:ByteArray) ps.dropLast.dropLast (by
   rw [show L (⟨#[46,46]⟩:ByteArray) = [46,46] from rfl,join_dots O]
   unfold adOf;rw [JoinS.map_dropLast,JoinS.map_dropLast];rfl)
  have a3:=come (⟨#[47]⟩:ByteArray) [] (by
   rw [show L (⟨#[47]⟩:ByteArray) = [47] from rfl,join_door O];rfl)
  have hd1:ps.take (ps.length - 1) = ps.dropLast:=List.dropLast_eq_take.symm
  have hd2:ps.take (ps.length - 2) = ps.dropLast.dropLast:=by
   rw [List.dropLast_eq_take,List.dropLast_eq_take,List.take_take,List.length_take]
   congr 1;omega
  have S1:=self_ev (h:=h) (l:=ps.dropLast) (b:=false) (q:=(⟨#[]⟩:ByteArray)) (by rw [List.length_dropLast];omega)
  have S2:=self_ev (h:=h) (l:=ps.dropLast.dropLast) (b:=false) (q:=(⟨#[]⟩:ByteArray)) (by rw [List.length_dropLast,List.length_dropLast];omega)
  have S3:=self_ev (h:=h) (l:=[]) (b:=false) (q:=(⟨#[]⟩:ByteArray)) (by simp)
  refine Ev.step (f:=fun k=>((impl_AddrJoin.f k h ps b q (⟨#[46]⟩:ByteArray)).bind fun bt919=>((impl_AddrJoin.f k h ps b q (⟨#[46,46]⟩:ByteArray)).bind fun bt927=>((impl_AddrJoin.f k h ps b q (⟨#[47]⟩:ByteArray)).bind fun bt935=>(if bt919.2.2.2.2 = true then (if 0 ≤ ((ps.length - 1:Nat):Int) then (if ((ps.length - 1:Nat):Int) ≤ (ps.length:Int) then ((laws_lpAddr.f k bt919.1 bt919.2.1 bt919.2.2.1 bt919.2.2.2.1 h ps.dropLast false (⟨#[]⟩:ByteArray)).bind fun t947=>(if t947 = true then (if bt927.2.2.2.2 = true then (if 0 ≤ ((ps.length - 2:Nat):Int) then (if ((ps.length - 2:Nat):Int) ≤ (ps.length:Int) then ((laws_lpAddr.f k bt927.1 bt927.2.1 bt927.2.2.1 bt927.2.2.2.1 h ps.dropLast.dropLast false (⟨#[]⟩:ByteArray)).bind fun t952=>(if t952 = true then (if bt935.2.2.2.2 = true then ((laws_lpAddr.f k bt935.1 bt935.2.1 bt935.2.2.1 bt935.2.2.2.1 h ([]:List ByteArray) false (⟨#[]⟩:ByteArray)).bind fun t953=>(some t953)) else (none)) else (none))) else (none)) else (none)) else (none)) else (none))) else (none)) else (none)) else (none)))))) (fun k=>by simp only [laws_FnJoinUp.j0];rw [if_neg (by simp),PathF.mx_last ps (by omega),mx_two ps (by omega),Int.toNat_natCast,Int.toNat_natCast,hd1,hd2]) ?_
  exact Ev.bind a1 (Ev.bind a2 (Ev.bind a3 (Ev.pos rfl (Ev.pos (show (0:Int) ≤ ((ps.length - 1:Nat):Int) by omega) (Ev.pos (show ((ps.length - 1:Nat):Int) ≤ (ps.length:Int) by omega) (Ev.bind S1 (Ev.pos rfl (Ev.pos rfl (Ev.pos (show (0:Int) ≤ ((ps.length - 2:Nat):Int) by omega) (Ev.pos (show ((ps.length - 2:Nat):Int) ≤ (ps.length:Int) by omega) (Ev.bind S2 (Ev.pos rfl (Ev.pos rfl (Ev.bind S3 (Ev.const rfl)))))))))))))))

end Go.Proofs.YtbnnamjaljohiaaDoor.Pure
