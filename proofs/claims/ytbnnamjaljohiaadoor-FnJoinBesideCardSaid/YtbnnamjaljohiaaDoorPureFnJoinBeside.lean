/- Beside the last part: by one name, and by one that goes round. Condition: none. -/
-- Cut down by a program of this session (wip/tools/prune.py) to what its claim can name.
import Derived.Test.YtbnnamjaljohiaaDoorPx7
import Derived.Test.YtbnnamjaljohiaaDoorPx8
import Derived.Test.YtbnnamjaljohiaaDoorJoinS
import Derived.Test.YtbnnamjaljohiaaDoorDrawJ
namespace Go.Proofs.YtbnnamjaljohiaaDoor.Pure
open Go hiding stepT
open Go.RowKit Go.Proofs.YtbnnamjaljohiaaDoor.P Go.Proofs.YtbnnamjaljohiaaDoor.Lib Go.Proofs.YtbnnamjaljohiaaDoor.AddrP Go.Proofs.YtbnnamjaljohiaaDoor.AddrF Go.Proofs.YtbnnamjaljohiaaDoor.AddrR Go.Proofs.YtbnnamjaljohiaaDoor.DrawA Go.Proofs.YtbnnamjaljohiaaDoor.ReadB Go.Proofs.YtbnnamjaljohiaaDoorW.PrintWords Go.Proofs.YtbnnamjaljohiaaDoorW.PrintLast
set_option linter.unusedVariables false
set_option linter.unusedSimpArgs false

theorem FnJoinBeside:laws_FnJoinBeside.Pure:=by
 intro l hm hb hw
 apply Ev.rounds
 unfold laws_FnJoinBeside.f
 by_cases c:(l.length:Int) > 1048576
 ·exact Ev.pos c (Ev.const rfl)
 obtain ⟨h,ps,b,q,s,hd,⟨z1,z2,z3⟩,z4⟩:=DrawJ.drawn hw
 have hlen:=len_tot ps
 obtain ⟨r,hs,hi,ha,s1,s2,hl,s3⟩:=JoinS.both_ev (h:=h) (l:=ps) (b:=b) (q:=q) (s:=s) (by omega) (by omega) (by omega) (by omega)
 have S:=self_ev (h:=r.1) (l:=r.2.1) (b:=r.2.2.1) (q:=r.2.2.2.1) (by omega)
 have K:=AddrF.ok_ev (h:=h) (l:=ps) (b:=b) (q:=q) (by omega) (by omega) (by omega)
 have far:Ev (fun k=>laws_FnJoinBeside.j0 k r.2.2.2.2 r.2.2.2.2 true h ps b q r.1 r.2.1 r.2.2.1 r.2.2.2.1 r.1 r.2.1 r.2.2.1 r.2.2.2.1) true :=
  Ev.step (f:=fun k=>(if (r.2.2.2.2 == r.2.2.2.2) = true then ((laws_lpAddr.f k r.1 r.2.1 r.2.2.1 r.2.2.2.1 r.1 r.2.1 r.2.2.1 r.2.2.2.1).bind fun t738=>(some t738)) else (none))) (fun k=>by simp only [laws_FnJoinBeside.j0];rw [if_pos (by first|trivial|rfl)]) (Ev.pos (by simp) (Ev.bind S (Ev.const rfl)))
 refine Ev.neg c (Ev.bind hd (Ev.bind hs (Ev.bind hi (Ev.neg (by simp) (Ev.bind S (Ev.pos rfl (Ev.bind K ?_)))))))
 cases hok:ok (adOf h ps b q) with
 | false=>exact Ev.neg Bool.false_ne_true far
 | true =>
  have O:=(ok_iff _).mp hok
  refine Ev.pos rfl ?_
  show Ev (fun k=>laws_FnJoinBeside.j0 k r.2.2.2.2 r.2.2.2.2 ((ps.length:Int) == 0) h ps b q r.1 r.2.1 r.2.2.1 r.2.2.2.1 r.1 r.2.1 r.2.2.1 r.2.2.2.1) true
  by_cases n0:(ps.length:Int) = 0
  ·rw [show ((ps.length:Int) == 0) = true from beq_iff_eq.mpr n0];exact far
  rw [show ((ps.length:Int) == 0) = false from beq_eq_false_iff_ne.mpr n0]
  obtain ⟨v,hv,va⟩:=JoinS.impl_ev (h:=h) (l:=ps) (b:=b) (q:=q) (s:=(⟨#[113]⟩:ByteArray)) (by omega) (by omega) (by omega)
  obtain ⟨v',hv',va'⟩:=JoinS.impl_ev (h:=h) (l:=ps) (b:=b) (q:=q) (s:=(⟨#[46,47,119,47,46,46,47,113]⟩:ByteArray)) (by omega) (by omega) (by omega)
  rw [show L (⟨#[113]⟩:ByteArray) = [113] from rfl] at va
  rw [show L (⟨#[46,47,119,47,46,46,47,113]⟩:ByteArray) = [46,47,119,47,46,46,47,113] from rfl] at va'
  obtain ⟨e1,e2⟩:=join_beside O
  rw [← e1] at va'
  obtain rfl:=va'.one va
  have w:wrap64 ((ps.length:Int) - 1) = ((ps.length - 1:Nat):Int):=by rw [w64 (by omega) (by omega)];omega
  have vl:v'.2.1.length ≤ 1000000000:=by
   cases hj:joinA (adOf h ps b q) [113] with
   | none=>rw [hj] at va;rw [show v' = noAd from va];exact Nat.zero_le _
   | some a =>
    rw [hj] at va
    have ho:=(join_ok hj).1
    rw [← va.2] at ho
    have:=len_tot v'.2.1
    have:=(AddrD.ok_short ho).2.1
    omega
  have S2:=self_ev (h:=v'.1) (l:=v'.2.1) (b:=v'.2.2.1) (q:=v'.2.2.2.1) vl
  have hdl:ps.take (ps.length - 1) = ps.dropLast:=List.dropLast_eq_take.symm
  refine Ev.step (f:=fun k=>((impl_AddrJoin.f k h ps b q (⟨#[113]⟩:ByteArray)).bind fun bt775=>((impl_AddrJoin.f k h ps b q (⟨#[46,47,119,47,46,46,47,113]⟩:ByteArray)).bind fun bt783=>((some (([]:List ByteArray):List ByteArray)).bind fun y791=>(if 0 ≤ (((ps.length - 1:Nat):Int)) then (if (((ps.length - 1:Nat):Int)) ≤ (ps.length:Int) then ((some ps.dropLast).bind fun y794=>(if y791.length + y794.length < 8796093022208 then ((some (y791 ++ y794:List ByteArray)).bind fun y798=>(if y798.length < 8796093022208 then (if (bt775.2.2.2.2 == bt783.2.2.2.2) = true then ((laws_lpAddr.f k bt775.1 bt775.2.1 bt775.2.2.1 bt775.2.2.2.1 bt783.1 bt783.2.1 bt783.2.2.1 bt783.2.2.2.1).bind fun t804=>(if t804 = true then (if bt775.2.2.2.2 = true then ((laws_lpAddr.f k bt775.1 bt775.2.1 bt775.2.2.1 bt775.2.2.2.1 h (y798 ++ [(⟨#[113]⟩:ByteArray)]) false (⟨#[]⟩:ByteArray)).bind fun t805=>(some t805)) else (some true)) else (none))) else (none)) else (none))) else (none))) else (none)) else (none)))))) (fun k=>by simp only [laws_FnJoinBeside.j0];rw [if_neg (by simp),w,Int.toNat_natCast,hdl]) ?_
  refine Ev.bind hv (Ev.bind hv' (Ev.bind0 (a:=[]) rfl (Ev.pos (show (0:Int) ≤ ((ps.length - 1:Nat):Int) by omega) (Ev.pos (show ((ps.length - 1:Nat):Int) ≤ (ps.length:Int) by omega) (Ev.bind0 (a:=ps.dropLast) rfl (Ev.pos (show 0 + ps.dropLast.length < 8796093022208 by rw [List.length_dropLast];omega) (Ev.bind0 (a:=ps.dropLast) rfl (Ev.pos (show ps.dropLast.length < 8796093022208 by rw [List.length_dropLast];omega) (Ev.pos (show (v'.2.2.2.2 == v'.2.2.2.2) = true by simp) (Ev.bind S2 (Ev.pos rfl ?_)))))))))))
  cases hj:joinA (adOf h ps b q) [113] with
  | none =>
   rw [hj] at va
   have h5:v'.2.2.2.2 = false:=by rw [show v' = noAd from va];rfl
   exact Ev.neg (show ¬ v'.2.2.2.2 = true by rw [h5];simp) (Ev.const rfl)
  | some a =>
   have hx:=e2 a hj
   rw [hj] at va
   obtain ⟨h5,e⟩:=va
   have ed:adOf h (ps.dropLast ++ [(⟨#[113]⟩:ByteArray)]) false (⟨#[]⟩:ByteArray) = ⟨(adOf h ps b q).house,(adOf h ps b q).parts.dropLast ++ [[113]],false,[]⟩:=by
    unfold adOf
    rw [List.map_append,JoinS.map_dropLast];rfl
   rw [hx,← ed] at e
   obtain ⟨f1,f2,f3,f4⟩:=adOf_inj.mp e
   have S3:=same_ev (h:=v'.1) (l:=v'.2.1) (b:=v'.2.2.1) (q:=v'.2.2.2.1) (h':=h) (l':=ps.dropLast ++ [(⟨#[113]⟩:ByteArray)]) (b':=false) (q':=(⟨#[]⟩:ByteArray)) vl
   rw [decide_eq_true ⟨f1,f2,f3,f4⟩] at S3
   exact Ev.pos h5 (Ev.bind S3 (Ev.const rfl))

end Go.Proofs.YtbnnamjaljohiaaDoor.Pure
