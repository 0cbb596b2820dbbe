-- Written by a program of this session (patch_print.py over the kit's print; given texts in wip/given).
-- Cut down by a program of this session (wip/tools/prune.py) to what its claim can name.
import Derived.Test.YtheakfegchndcaaPx0
import Derived.Test.YtheakfegchndcaaPx3
import Derived.Test.YtheakfegchndcaaPx6
namespace Go.Proofs.Ytheakfegchndcaa.P
open Go.RowKit Go.Proofs.YtheakfegchndcaaW.PrintWords Go.Proofs.YtheakfegchndcaaW.PrintLast Go.Proofs.YtheakfegchndcaaW.PrintMore
attribute [local go_sem] max2_int min2_int max_two min_two max_three min_three max_four min_four   -- for this text's walks alone
set_option linter.unusedVariables false
set_option linter.unusedSimpArgs false
set_option maxHeartbeats 8000000
set_option maxRecDepth 100000

def laws_FnForTwo.f (k:Nat) (l0:List Int):Option (Bool):=if (l0.length:Int) > 1048576 then (some true) else ((spec_DrawNoticeFor.f k l0).bind fun bt482=>((impl_NoticeFor.f bt482.1 bt482.2).bind fun bt486=>((spec_NoticeFor.f k bt482.1 bt482.2).bind fun bt494=>((laws_lpGroup.f k bt486.1 bt486.2.1 bt486.2.2 bt494.1 bt494.2.1 bt494.2.2).bind fun t501=>(if t501 = true then ((some (([]:List (S30)):List (S30))).bind fun y502=>(if y502.length + bt482.1.length < 2513169434916 then ((some (y502 ++ bt482.1:List (S30))).bind fun y505=>(if y505.length + bt482.1.length < 2513169434916 then ((impl_NoticeFor.f (y505 ++ bt482.1) bt482.2).bind fun bt511=>(if bt511.2.2 = bt486.2.2 then (if (bt511.2.1.length:Int) = (wrap64 (2 * (bt486.2.1.length:Int))) then (if 0 ≤ (bt486.2.1.length:Int) then (if (bt486.2.1.length:Int) ≤ (bt511.2.1.length:Int) then ((laws_lpRules.f k (bt511.2.1.take ((bt486.2.1.length:Int):Int).toNat) bt486.2.1).bind fun t524=>(if t524 = true then ((laws_lpRules.f k (bt511.2.1.drop ((bt486.2.1.length:Int):Int).toNat) bt486.2.1).bind fun t530=>(some t530)) else (none))) else (none)) else (none)) else (none)) else (none))) else (none))) else (none))) else (none))))))
theorem laws_FnForTwo.mono:∀ a0 k,LeO (laws_FnForTwo.f k a0) (laws_FnForTwo.f (k + 1) a0):=by
 intro a0 k
 unfold laws_FnForTwo.f
 repeat' first
   | (with_reducible exact laws_lpGroup.mono _ _ _ _ _ _ _)
   | (with_reducible exact laws_lpRules.mono _ _ _)
   | (with_reducible exact spec_DrawNoticeFor.mono _ _)
   | (with_reducible exact spec_NoticeFor.mono _ _ _)
   | (with_reducible exact LeO.refl _)
   | (with_reducible exact LeO.none _)
   | (with_reducible refine LeO.ite ?_ ?_)
   | (with_reducible refine LeO.bind ?_ (fun _=>?_))
   | exact laws_lpGroup.mono _ _ _ _ _ _ _
   | exact laws_lpRules.mono _ _ _
   | exact spec_DrawNoticeFor.mono _ _
   | exact spec_NoticeFor.mono _ _ _
   | exact LeO.none _
   | refine LeO.ite ?_ ?_
   | refine LeO.bind ?_ (fun _=>?_)
def laws_FnForTwo.T8:Bool × List (List Nat × List Nat):=(true,[([],[]),([0],[0]),([],[]),([2],[2]),([1,3],[1,3]),([4],[4]),([5],[5]),([6,5],[5,6]),([7,5],[5,7]),([5],[5]),([9,5],[5,9]),([10,5],[5,10]),([11,5],[5,11]),([8,12,5],[5,8,12]),([5,13],[5,13]),([14,5],[14]),([15],[15]),([16,15],[15,16]),([15],[15]),([18,15],[15,18]),([19,15],[15,19]),([17,20,15],[15,17,20]),([15],[15]),([22,15],[15,22]),([21,23,15,15],[15,21,23]),([15,24],[15,24]),([25,24],[25]),([26],[26]),([27,26],[26,27]),([26],[26]),([29,26],[26,29]),([30,26],[26,30]),([28,31,26],[26,28,31]),([26],[26]),([33,26],[26,33]),([32,34,26,26],[26,32,34]),([26,35],[26,35]),([36,35,0,1,2,3,4,5,6,7,8,9,10,11,12,13,14,15,16,17,18,19,20,21,22,23,24,25,26,27,28,29,30,31,32,33,34,35,36],[36])])
def laws_FnForTwo.B8:List Nat:=[0,1,0,4,15,31,63,127,255,63,575,1599,3647,8191,16383,32767,65535,131071,65535,327679,851967,2097151,65535,4259839,16777215,33554431,67108863,134217727,268435455,134217727,671088639,1744830463,4294967295,134217727,8724152319,34359738367,68719476735,137438953471]
theorem laws_FnForTwo.tab8:rtab .any (opsOf Try.f5 8) = laws_FnForTwo.T8:=by kernel_rfl
theorem laws_FnForTwo.bits8:waitsOk laws_FnForTwo.T8.2 laws_FnForTwo.B8 = true:=by kernel_rfl
theorem laws_FnForTwo.calls (k:Nat) (A0:Option Addr) (c0:Nat) (l0:List Int) (r:Bool) (w:World) (hr0:Kd.C (Kd.int .u8) w A0 l0.length l0) (hc0:l0.length ≤ c0) (h:laws_FnForTwo.f k l0 = some r) :
  Calls Try.prog 5 #[.slice A0 l0.length c0] w fun e w'=>e = .returned (.bool r) ∧ Below w.heap.size w w':=by
 have hu30:=Try.underlying30
 have HR0:=Aside0.mk hr0
 have HC0:=Aside0.mk hc0
 clear hr0 hc0
 have HB:=Aside0.mk (Below.refl w.heap.size w)
 have H:(if (l0.length:Int) > 1048576 then (some true) else ((spec_DrawNoticeFor.f k l0).bind fun bt482=>((impl_NoticeFor.f bt482.1 bt482.2).bind fun bt486=>((spec_NoticeFor.f k bt482.1 bt482.2).bind fun bt494=>((laws_lpGroup.f k bt486.1 bt486.2.1 bt486.2.2 bt494.1 bt494.2.1 bt494.2.2).bind fun t501=>(if t501 = true then ((some (([]:List (S30)):List (S30))).bind fun y502=>(if y502.length + bt482.1.length < 2513169434916 then ((some (y502 ++ bt482.1:List (S30))).bind fun y505=>(if y505.length + bt482.1.length < 2513169434916 then ((impl_NoticeFor.f (y505 ++ bt482.1) bt482.2).bind fun bt511=>(if bt511.2.2 = bt486.2.2 then (if (bt511.2.1.length:Int) = (wrap64 (2 * (bt486.2.1.length:Int))) then (if 0 ≤ (bt486.2.1.length:Int) then (if (bt486.2.1.length:Int) ≤ (bt511.2.1.length:Int) then ((laws_lpRules.f k (bt511.2.1.take ((bt486.2.1.length:Int):Int).toNat) bt486.2.1).bind fun t524=>(if t524 = true then ((laws_lpRules.f k (bt511.2.1.drop ((bt486.2.1.length:Int):Int).toNat) bt486.2.1).bind fun t530=>(some t530)) else (none))) else (none)) else (none)) else (none)) else (none))) else (none))) else (none))) else (none))))))) = some r:=h
 clear h
 by_cases c2:(l0.length:Int) > 1048576
 ·rw [if_pos c2] at H
  have c2b0:decide (1048576 < (l0.length:Int)) = true:=decide_eq_true c2
  have c2b1:decide (1048576 < l0.length) = true:=decide_eq_true (by omega)
  clear c2
  obtain rfl:=Option.some.inj H
  go_enter Try.func5,Try.ntmps5
  go_wp2
  go_ret
  exact ⟨by first|rfl|(simp <;> rfl)|(simp [*] <;> rfl),by repeat (first|(with_reducible first|exact HB.out|apply below_alloc|apply pw_below_drewN|apply below_drew1)|exact HB.out)⟩
 ·rw [if_neg c2] at H
  have c2b0:decide (1048576 < (l0.length:Int)) = false:=decide_eq_false c2
  have c2b1:decide (1048576 < l0.length) = false:=decide_eq_false (by omega)
  clear c2
  replace H:=Option.bind_eq_some_iff.mp H
  obtain ⟨⟨t482,t483⟩,A30,H⟩:=H
  replace H:((impl_NoticeFor.f t482 t483).bind fun bt486=>((spec_NoticeFor.f k t482 t483).bind fun bt494=>((laws_lpGroup.f k bt486.1 bt486.2.1 bt486.2.2 bt494.1 bt494.2.1 bt494.2.2).bind fun t501=>(if t501 = true then ((some (([]:List (S30)):List (S30))).bind fun y502=>(if y502.length + t482.length < 2513169434916 then ((some (y502 ++ t482:List (S30))).bind fun y505=>(if y505.length + t482.length < 2513169434916 then ((impl_NoticeFor.f (y505 ++ t482) t483).bind fun bt511=>(if bt511.2.2 = bt486.2.2 then (if (bt511.2.1.length:Int) = (wrap64 (2 * (bt486.2.1.length:Int))) then (if 0 ≤ (bt486.2.1.length:Int) then (if (bt486.2.1.length:Int) ≤ (bt511.2.1.length:Int) then ((laws_lpRules.f k (bt511.2.1.take ((bt486.2.1.length:Int):Int).toNat) bt486.2.1).bind fun t524=>(if t524 = true then ((laws_lpRules.f k (bt511.2.1.drop ((bt486.2.1.length:Int):Int).toNat) bt486.2.1).bind fun t530=>(some t530)) else (none))) else (none)) else (none)) else (none)) else (none))) else (none))) else (none))) else (none))))) = some r:=H
  have A3:=Aside0.mk A30
  clear A30
  replace H:=Option.bind_eq_some_iff.mp H
  obtain ⟨⟨t486,t489,t492⟩,A40,H⟩:=H
  replace H:((spec_NoticeFor.f k t482 t483).bind fun bt494=>((laws_lpGroup.f k t486 t489 t492 bt494.1 bt494.2.1 bt494.2.2).bind fun t501=>(if t501 = true then ((some (([]:List (S30)):List (S30))).bind fun y502=>(if y502.length + t482.length < 2513169434916 then ((some (y502 ++ t482:List (S30))).bind fun y505=>(if y505.length + t482.length < 2513169434916 then ((impl_NoticeFor.f (y505 ++ t482) t483).bind fun bt511=>(if bt511.2.2 = t492 then (if (bt511.2.1.length:Int) = (wrap64 (2 * (t489.length:Int))) then (if 0 ≤ (t489.length:Int) then (if (t489.length:Int) ≤ (bt511.2.1.length:Int) then ((laws_lpRules.f k (bt511.2.1.take ((t489.length:Int):Int).toNat) t489).bind fun t524=>(if t524 = true then ((laws_lpRules.f k (bt511.2.1.drop ((t489.length:Int):Int).toNat) t489).bind fun t530=>(some t530)) else (none))) else (none)) else (none)) else (none)) else (none))) else (none))) else (none))) else (none)))) = some r:=H
  have A4:=Aside0.mk A40
  clear A40
  replace H:=Option.bind_eq_some_iff.mp H
  obtain ⟨⟨t494,t497,t500⟩,A50,H⟩:=H
  replace H:((laws_lpGroup.f k t486 t489 t492 t494 t497 t500).bind fun t501=>(if t501 = true then ((some (([]:List (S30)):List (S30))).bind fun y502=>(if y502.length + t482.length < 2513169434916 then ((some (y502 ++ t482:List (S30))).bind fun y505=>(if y505.length + t482.length < 2513169434916 then ((impl_NoticeFor.f (y505 ++ t482) t483).bind fun bt511=>(if bt511.2.2 = t492 then (if (bt511.2.1.length:Int) = (wrap64 (2 * (t489.length:Int))) then (if 0 ≤ (t489.length:Int) then (if (t489.length:Int) ≤ (bt511.2.1.length:Int) then ((laws_lpRules.f k (bt511.2.1.take ((t489.length:Int):Int).toNat) t489).bind fun t524=>(if t524 = true then ((laws_lpRules.f k (bt511.2.1.drop ((t489.length:Int):Int).toNat) t489).bind fun t530=>(some t530)) else (none))) else (none)) else (none)) else (none)) else (none))) else (none))) else (none))) else (none))) = some r:=H
  have A5:=Aside0.mk A50
  clear A50
  replace H:=Option.bind_eq_some_iff.mp H
  obtain ⟨t501,A60,H⟩:=H
  replace H:(if t501 = true then ((some (([]:List (S30)):List (S30))).bind fun y502=>(if y502.length + t482.length < 2513169434916 then ((some (y502 ++ t482:List (S30))).bind fun y505=>(if y505.length + t482.length < 2513169434916 then ((impl_NoticeFor.f (y505 ++ t482) t483).bind fun bt511=>(if bt511.2.2 = t492 then (if (bt511.2.1.length:Int) = (wrap64 (2 * (t489.length:Int))) then (if 0 ≤ (t489.length:Int) then (if (t489.length:Int) ≤ (bt511.2.1.length:Int) then ((laws_lpRules.f k (bt511.2.1.take ((t489.length:Int):Int).toNat) t489).bind fun t524=>(if t524 = true then ((laws_lpRules.f k (bt511.2.1.drop ((t489.length:Int):Int).toNat) t489).bind fun t530=>(some t530)) else (none))) else (none)) else (none)) else (none)) else (none))) else (none))) else (none))) else (none)) = some r:=H
  have A6:=Aside0.mk A60
  clear A60
  by_cases c7:t501 = true
  ·subst c7
   have H1:((some (([]:List (S30)):List (S30))).bind fun y502=>(if y502.length + t482.length < 2513169434916 then ((some (y502 ++ t482:List (S30))).bind fun y505=>(if y505.length + t482.length < 2513169434916 then ((impl_NoticeFor.f (y505 ++ t482) t483).bind fun bt511=>(if bt511.2.2 = t492 then (if (bt511.2.1.length:Int) = (wrap64 (2 * (t489.length:Int))) then (if 0 ≤ (t489.length:Int) then (if (t489.length:Int) ≤ (bt511.2.1.length:Int) then ((laws_lpRules.f k (bt511.2.1.take ((t489.length:Int):Int).toNat) t489).bind fun t524=>(if t524 = true then ((laws_lpRules.f k (bt511.2.1.drop ((t489.length:Int):Int).toNat) t489).bind fun t530=>(some t530)) else (none))) else (none)) else (none)) else (none)) else (none))) else (none))) else (none))) = some r:=by rw [if_pos rfl] at H;exact H
   clear H
   have H:=H1
   clear H1
   obtain ⟨y502,hy502⟩:∃ y_:List (S30),y_ = (([]:List (S30))):=⟨_,rfl⟩
   replace H:(if y502.length + t482.length < 2513169434916 then ((some (y502 ++ t482:List (S30))).bind fun y505=>(if y505.length + t482.length < 2513169434916 then ((impl_NoticeFor.f (y505 ++ t482) t483).bind fun bt511=>(if bt511.2.2 = t492 then (if (bt511.2.1.length:Int) = (wrap64 (2 * (t489.length:Int))) then (if 0 ≤ (t489.length:Int) then (if (t489.length:Int) ≤ (bt511.2.1.length:Int) then ((laws_lpRules.f k (bt511.2.1.take ((t489.length:Int):Int).toNat) t489).bind fun t524=>(if t524 = true then ((laws_lpRules.f k (bt511.2.1.drop ((t489.length:Int):Int).toNat) t489).bind fun t530=>(some t530)) else (none))) else (none)) else (none)) else (none)) else (none))) else (none))) else (none)) = some r:=by first|(rw [hy502];with_reducible exact H)|(have H2_:=(Option.bind_some _ _).symm.trans H;rw [hy502];with_reducible exact H2_)|(have H2_:=(Option.bind_some _ _).symm.trans H;with_reducible exact H2_)|with_reducible exact H|(rw [hy502];exact H)|exact H
   have Ny502:=Aside0.mk hy502
   clear hy502
   by_cases c8:y502.length + t482.length < 2513169434916
   ·rw [if_pos c8] at H
    have LMc8:=Aside0.mk c8
    clear c8
    obtain ⟨y505,hy505⟩:∃ y_:List (S30),y_ = (y502 ++ t482):=⟨_,rfl⟩
    replace H:(if y505.length + t482.length < 2513169434916 then ((impl_NoticeFor.f (y505 ++ t482) t483).bind fun bt511=>(if bt511.2.2 = t492 then (if (bt511.2.1.length:Int) = (wrap64 (2 * (t489.length:Int))) then (if 0 ≤ (t489.length:Int) then (if (t489.length:Int) ≤ (bt511.2.1.length:Int) then ((laws_lpRules.f k (bt511.2.1.take ((t489.length:Int):Int).toNat) t489).bind fun t524=>(if t524 = true then ((laws_lpRules.f k (bt511.2.1.drop ((t489.length:Int):Int).toNat) t489).bind fun t530=>(some t530)) else (none))) else (none)) else (none)) else (none)) else (none))) else (none)) = some r:=by first|(rw [hy505];with_reducible exact H)|(have H2_:=(Option.bind_some _ _).symm.trans H;rw [hy505];with_reducible exact H2_)|(have H2_:=(Option.bind_some _ _).symm.trans H;with_reducible exact H2_)|with_reducible exact H|(rw [hy505];exact H)|exact H
    have Ny505:=Aside0.mk hy505
    clear hy505
    by_cases c9:y505.length + t482.length < 2513169434916
    ·rw [if_pos c9] at H
     have LMc9:=Aside0.mk c9
     clear c9
     obtain ⟨y508,hy508⟩:∃ y_:List (S30),y_ = (y505 ++ t482):=⟨_,rfl⟩
     replace H:((impl_NoticeFor.f y508 t483).bind fun bt511=>(if bt511.2.2 = t492 then (if (bt511.2.1.length:Int) = (wrap64 (2 * (t489.length:Int))) then (if 0 ≤ (t489.length:Int) then (if (t489.length:Int) ≤ (bt511.2.1.length:Int) then ((laws_lpRules.f k (bt511.2.1.take ((t489.length:Int):Int).toNat) t489).bind fun t524=>(if t524 = true then ((laws_lpRules.f k (bt511.2.1.drop ((t489.length:Int):Int).toNat) t489).bind fun t530=>(some t530)) else (none))) else (none)) else (none)) else (none)) else (none))) = some r:=by first|(rw [hy508];with_reducible exact H)|(have H2_:=(Option.bind_some _ _).symm.trans H;rw [hy508];with_reducible exact H2_)|(have H2_:=(Option.bind_some _ _).symm.trans H;with_reducible exact H2_)|with_reducible exact H|(rw [hy508];exact H)|exact H
     have Ny508:=Aside0.mk hy508
     clear hy508
     replace H:=Option.bind_eq_some_iff.mp H
     obtain ⟨⟨t511,t514,t517⟩,A100,H⟩:=H
     replace H:(if t517 = t492 then (if (t514.length:Int) = (wrap64 (2 * (t489.length:Int))) then (if 0 ≤ (t489.length:Int) then (if (t489.length:Int) ≤ (t514.length:Int) then ((laws_lpRules.f k (t514.take ((t489.length:Int):Int).toNat) t489).bind fun t524=>(if t524 = true then ((laws_lpRules.f k (t514.drop ((t489.length:Int):Int).toNat) t489).bind fun t530=>(some t530)) else (none))) else (none)) else (none)) else (none)) else (none)) = some r:=H
     have A10:=Aside0.mk A100
     clear A100
     by_cases c11:t517 = t492
     ·rw [if_pos c11] at H
      have c11b0:(t517 == t492) = true:=beq_iff_eq.mpr c11
      have c11b1:(t517 != t492) = false:=bne_eq_false_iff_eq.mpr c11
      clear c11
      by_cases c12:(t514.length:Int) = (wrap64 (2 * (t489.length:Int)))
      ·rw [if_pos c12] at H
       have c12b0:((t514.length:Int) == (wrap64 (2 * (t489.length:Int)))) = true:=beq_iff_eq.mpr c12
       have c12b1:((t514.length:Int) != (wrap64 (2 * (t489.length:Int)))) = false:=bne_eq_false_iff_eq.mpr c12
       clear c12
       by_cases c13:0 ≤ (t489.length:Int)
       ·rw [if_pos c13] at H
        have c13b0:=eq_true c13
        have c13b1:=decide_eq_true c13
        clear c13
        by_cases c14:(t489.length:Int) ≤ (t514.length:Int)
        ·rw [if_pos c14] at H
         have c14b0:=eq_true c14
         have c14b1:=decide_eq_true c14
         clear c14
         obtain ⟨y519,hy519⟩:∃ y_:List (S57),y_ = (t514.take ((t489.length:Int):Int).toNat):=⟨_,rfl⟩
         replace H:((laws_lpRules.f k y519 t489).bind fun t524=>(if t524 = true then ((laws_lpRules.f k (t514.drop ((t489.length:Int):Int).toNat) t489).bind fun t530=>(some t530)) else (none))) = some r:=by first|(rw [hy519];with_reducible exact H)|(have H2_:=(Option.bind_some _ _).symm.trans H;rw [hy519];with_reducible exact H2_)|(have H2_:=(Option.bind_some _ _).symm.trans H;with_reducible exact H2_)|with_reducible exact H|(rw [hy519];exact H)|exact H
         have Ny519:=Aside0.mk hy519
         clear hy519
         replace H:=Option.bind_eq_some_iff.mp H
         obtain ⟨t524,A150,H⟩:=H
         replace H:(if t524 = true then ((laws_lpRules.f k (t514.drop ((t489.length:Int):Int).toNat) t489).bind fun t530=>(some t530)) else (none)) = some r:=H
         have A15:=Aside0.mk A150
         clear A150
         by_cases c16:t524 = true
         ·subst c16
          have H1:((laws_lpRules.f k (t514.drop ((t489.length:Int):Int).toNat) t489).bind fun t530=>(some t530)) = some r:=by rw [if_pos rfl] at H;exact H
          clear H
          have H:=H1
          clear H1
          have c17b0:=eq_true (of_decide_eq_true (by first|(with_reducible assumption)|assumption):0 ≤ (t489.length:Int))
          have c18b0:=eq_true (of_decide_eq_true (by first|(with_reducible assumption)|assumption):(t489.length:Int) ≤ (t514.length:Int))
          obtain ⟨y525,hy525⟩:∃ y_:List (S57),y_ = (t514.drop ((t489.length:Int):Int).toNat):=⟨_,rfl⟩
          replace H:((laws_lpRules.f k y525 t489).bind fun t530=>(some t530)) = some r:=by first|(rw [hy525];with_reducible exact H)|(have H2_:=(Option.bind_some _ _).symm.trans H;rw [hy525];with_reducible exact H2_)|(have H2_:=(Option.bind_some _ _).symm.trans H;with_reducible exact H2_)|with_reducible exact H|(rw [hy525];exact H)|exact H
          have Ny525:=Aside0.mk hy525
          clear hy525
          replace H:=Option.bind_eq_some_iff.mp H
          obtain ⟨t530,A190,H⟩:=H
          replace H:(some t530) = some r:=H
          have A19:=Aside0.mk A190
          clear A190
          obtain rfl:=Option.some.inj H
          go_enter Try.func5,Try.ntmps5
          try go_wp2_with (first|((with_reducible refine gate_callee (f:=11) rfl ?_);refine goesL_ (some 12) rfl rfl Try.func11 (by kernel_rfl) rfl #[.slice A0 l0.length c0] rfl (by (try simp only [List.map_toArray,List.map_cons,List.map_nil]);first|done|rfl|(simp only [List.length_drop,List.length_take];rfl)) ?_;(with_reducible refine (spec_DrawNoticeFor.calls k _ _ l0 t482 t483 _ ?side1 ?side2 A3.out).mono ?_);(case side1=>repeat (first|exact HR0.out|(with_reducible refine Kd.C_alloc ?_ _)|(with_reducible refine Kd.C_drewN ?_ _)|(with_reducible refine Kd.C_drew ?_)));(case side2=>exact HC0.out);rintro e w20 ⟨v484,rfl,ho0,hb⟩;refine ⟨_,rfl,?_⟩;have n0_:=Aside0.mk (Kd.N_lower (Kd.N_mono (ok':=fun k_=>True) (Kd.S_N (Kd.S_bound ho0)) (fun k_ hk_=>trivial)) (below_size (by repeat (first|(with_reducible first|exact HB.out|apply below_alloc|apply pw_below_drewN|apply below_drew1)|exact HB.out))));have n1_:=Aside0.mk (below_step (by repeat (first|(with_reducible first|exact HB.out|apply below_alloc|apply pw_below_drewN|apply below_drew1)|exact HB.out)) hb);clear HB;have HO485:=n0_;have HB:=n1_;clear n0_ n1_;(try clear hb);(try clear hb2);(try clear hk);(try clear hi);(try clear ho0);obtain ⟨Ao21,co21,eo21⟩:=Kd.N_slice HO485.out;subst eo21)|((with_reducible refine gate_callee (f:=12) rfl ?_);refine goesL_ (some 17) rfl rfl Try.func12 (by kernel_rfl) rfl #[.slice Ao21 t482.length co21, .string t483] rfl (by (try simp only [List.map_toArray,List.map_cons,List.map_nil]);first|done|rfl|(simp only [List.length_drop,List.length_take];rfl)) ?_;(with_reducible refine (impl_NoticeFor.calls _ _ t482 t483 t486 t489 t492 _ ?side1 ?side2 A4.out).mono ?_);(case side1=>repeat (first|exact (Kd.N_reads' HO485.out).2.2|(with_reducible refine Kd.C_alloc ?_ _)|(with_reducible refine Kd.C_drewN ?_ _)|(with_reducible refine Kd.C_drew ?_)));(case side2=>exact (Kd.N_reads' HO485.out).2.1);rintro e w22 ⟨v487,v490,rfl,ho0,ho1,hb⟩;refine ⟨_,rfl,?_⟩;have n0_:=Aside0.mk (Kd.N_mono (Kd.N_told (Kd.N_told (Kd.N_old (by (with_reducible repeat (first|apply Kd.N_alloc|apply Kd.N_drewN|apply Kd.N_drew));exact HO485.out) hb) (Kd.R_base ho0)) (Kd.R_base ho1)) (fun _ h_=>h_.1));have n1_:=Aside0.mk (Kd.R_lower ho0 (below_size (by repeat (first|(with_reducible first|exact HB.out|apply below_alloc|apply pw_below_drewN|apply below_drew1)|exact HB.out))));have n2_:=Aside0.mk (Kd.R_lower ho1 (below_size (by repeat (first|(with_reducible first|exact HB.out|apply below_alloc|apply pw_below_drewN|apply below_drew1)|exact HB.out))));have n3_:=Aside0.mk (below_step (by repeat (first|(with_reducible first|exact HB.out|apply below_alloc|apply pw_below_drewN|apply below_drew1)|exact HB.out)) hb);clear HO485;clear HB;have HO485:=n0_;have HO488:=n1_;have HO491:=n2_;have HB:=n3_;clear n0_ n1_ n2_ n3_;(try clear hb);(try clear hb2);(try clear hk);(try clear hi);(try clear ho0);(try clear ho1))|((with_reducible refine gate_dst (N:=5) rfl ?_);(try (refine gate_guard (by rfl) ?_;dsimp only));refine box_event ?hg (N:=5) ?hd (cs:=#[.slice none 0 0, .slice none 0 0, .int .i64 0]) (t:=30) ?hr ?_;(case hd=>rfl);(case hg=>rfl);(case hr=>first|(go_simp;done)|(go_simp;rfl));intro gb493 hg w23 hbox hb;have n0_:=Aside0.mk (Kd.N_below (Kd.N_elderB (by (with_reducible repeat (first|apply Kd.N_alloc|apply Kd.N_drewN|apply Kd.N_drew));exact HO485.out) gb493 (Nat.le_of_eq hg.symm)) hb);have n1_:=Aside0.mk (Kd.R_below (by (with_reducible repeat (first|apply Kd.R_alloc|apply Kd.R_drewN|apply Kd.R_drew));exact HO488.out) hb);have n2_:=Aside0.mk (Kd.R_below (by (with_reducible repeat (first|apply Kd.R_alloc|apply Kd.R_drewN|apply Kd.R_drew));exact HO491.out) hb);have n3_:=Aside0.mk (below_step (by repeat (first|(with_reducible first|exact HB.out|apply below_alloc|apply pw_below_drewN|apply below_drew1)|exact HB.out)) hb);have n4_:=Aside0.mk (hbox);have n5_:=Aside0.mk ((by rw [hg];exact (below_size (by repeat (first|(with_reducible first|exact HB.out|apply below_alloc|apply pw_below_drewN|apply below_drew1)|exact HB.out))):w.heap.size ≤ gb493));have n6_:=n5_;clear HO485;clear HO488;clear HO491;clear HB;have HO485:=n0_;have HO488:=n1_;have HO491:=n2_;have HB:=n3_;have BK493:=n4_;have GW493:=n5_;have GE493:=n6_;clear n0_ n1_ n2_ n3_ n4_ n5_ n6_;clear hb hbox hg;obtain ⟨Ao24,co24,eo24⟩:=Kd.R_slice HO488.out;subst eo24;have hcz25_0:w23.cell? ⟨gb493,0,none⟩ = some (.slice none 0 0):=(blk_cell BK493.out 0).trans rfl;have hcz25_1:w23.cell? ⟨gb493,1,none⟩ = some (.slice none 0 0):=(blk_cell BK493.out 1).trans rfl;have hcz25_2:w23.cell? ⟨gb493,2,none⟩ = some (.int .i64 0):=(blk_cell BK493.out 2).trans rfl;have hfz25_0:=blk_frozen BK493.out 0;have hfz25_1:=blk_frozen BK493.out 1;have hfz25_2:=blk_frozen BK493.out 2;obtain ⟨Ao26,co26,eo26⟩:=Kd.R_slice HO491.out;subst eo26))
          have n0_:Aside0 (Kd.N k30 30 (((w23.setCell ⟨gb493,0,none⟩ (.slice Ao24 t486.length co24)).setCell ⟨gb493,1,none⟩ (.slice Ao26 t489.length co26)).setCell ⟨gb493,2,none⟩ (.int .i64 t492)) w.heap.size (fun k_=>some k_ ≠ (.slice Ao24 t486.length co24:Value).ownBlock ∧ some k_ ≠ (.slice Ao26 t489.length co26:Value).ownBlock ∧ k_ ≠ gb493) (.slice Ao21 t482.length co21) t482):=⟨by (with_reducible repeat (first|apply Kd.N_alloc|apply Kd.N_drewN|apply Kd.N_drew));exact Kd.N_mono (Kd.N_far (p:=⟨gb493,2,none⟩) (Kd.N_far (p:=⟨gb493,1,none⟩) (Kd.N_far (p:=⟨gb493,0,none⟩) (Kd.N_mono HO485.out (fun k_ hk=>(⟨hk,hk.2⟩:_ ∧ k_ ≠ gb493))) (fun _ hk=>hk.2) (.slice Ao24 t486.length co24)) (fun _ hk=>hk.2) (.slice Ao26 t489.length co26)) (fun _ hk=>hk.2) (.int .i64 t492)) (fun _ hk=>⟨hk.1.1.1.2,⟨hk.1.1.2,hk.1.2⟩⟩)⟩
          have n1_:Aside0 (Kd.R Kd.string 9 (((w23.setCell ⟨gb493,0,none⟩ (.slice Ao24 t486.length co24)).setCell ⟨gb493,1,none⟩ (.slice Ao26 t489.length co26)).setCell ⟨gb493,2,none⟩ (.int .i64 t492)) w.heap.size (fun _=>True) (.slice Ao24 t486.length co24) t486):=⟨by (with_reducible repeat (first|apply Kd.R_alloc|apply Kd.R_drewN|apply Kd.R_drew));exact Kd.R_mono (Kd.R_far (p:=⟨gb493,2,none⟩) (Kd.R_far (p:=⟨gb493,1,none⟩) (Kd.R_far (p:=⟨gb493,0,none⟩) (Kd.R_types HO488.out BK493.out (by decide)) (fun _ hk=>hk.2) (.slice Ao24 t486.length co24)) (fun _ hk=>hk.2) (.slice Ao26 t489.length co26)) (fun _ hk=>hk.2) (.int .i64 t492)) (fun _ hk=>trivial)⟩
          have n2_:Aside0 (Kd.R k57 57 (((w23.setCell ⟨gb493,0,none⟩ (.slice Ao24 t486.length co24)).setCell ⟨gb493,1,none⟩ (.slice Ao26 t489.length co26)).setCell ⟨gb493,2,none⟩ (.int .i64 t492)) w.heap.size (fun _=>True) (.slice Ao26 t489.length co26) t489):=⟨by (with_reducible repeat (first|apply Kd.R_alloc|apply Kd.R_drewN|apply Kd.R_drew));exact Kd.R_mono (Kd.R_far (p:=⟨gb493,2,none⟩) (Kd.R_far (p:=⟨gb493,1,none⟩) (Kd.R_far (p:=⟨gb493,0,none⟩) (Kd.R_types HO491.out BK493.out (by decide)) (fun _ hk=>hk.2) (.slice Ao24 t486.length co24)) (fun _ hk=>hk.2) (.slice Ao26 t489.length co26)) (fun _ hk=>hk.2) (.int .i64 t492)) (fun _ hk=>trivial)⟩
          have n3_:Aside0 ((((w23.setCell ⟨gb493,0,none⟩ (.slice Ao24 t486.length co24)).setCell ⟨gb493,1,none⟩ (.slice Ao26 t489.length co26)).setCell ⟨gb493,2,none⟩ (.int .i64 t492)).heap[gb493]? = some (.cells #[.slice Ao24 t486.length co24, .slice Ao26 t489.length co26, .int .i64 t492] 30 (0,0))):=⟨by (with_reducible repeat (first|refine blk_drewN ?_ _|refine blk_drew ?_|refine blk_alloc ?_ _));refine blk_put (cs:=#[.slice Ao24 t486.length co24, .slice Ao26 t489.length co26, .int .i64 0]) ?_ 2 _ rfl;(with_reducible repeat (first|refine blk_drewN ?_ _|refine blk_drew ?_|refine blk_alloc ?_ _));refine blk_put (cs:=#[.slice Ao24 t486.length co24, .slice none 0 0, .int .i64 0]) ?_ 1 _ rfl;(with_reducible repeat (first|refine blk_drewN ?_ _|refine blk_drew ?_|refine blk_alloc ?_ _));refine blk_put (cs:=#[.slice none 0 0, .slice none 0 0, .int .i64 0]) ?_ 0 _ rfl;(with_reducible repeat (first|refine blk_drewN ?_ _|refine blk_drew ?_|refine blk_alloc ?_ _));exact BK493.out⟩
          have n4_:Aside0 (Below w.heap.size w (((w23.setCell ⟨gb493,0,none⟩ (.slice Ao24 t486.length co24)).setCell ⟨gb493,1,none⟩ (.slice Ao26 t489.length co26)).setCell ⟨gb493,2,none⟩ (.int .i64 t492))):=⟨by repeat (first|(with_reducible first|exact HB.out|apply below_alloc|apply pw_below_drewN|apply below_drew1|refine below_set ?_ GE493.out)|exact HB.out)⟩
          (try clear HO485)
          (try clear HO488)
          (try clear HO491)
          (try clear BK493)
          (try clear HB)
          generalize (((w23.setCell ⟨gb493,0,none⟩ (.slice Ao24 t486.length co24)).setCell ⟨gb493,1,none⟩ (.slice Ao26 t489.length co26)).setCell ⟨gb493,2,none⟩ (.int .i64 t492)) = w27 at n0_ n1_ n2_ n3_ n4_ ⊢
          have HO485:=n0_
          have HO488:=n1_
          have HO491:=n2_
          have BK493:=n3_
          have HB:=n4_
          clear n0_ n1_ n2_ n3_ n4_
          have n0_:=Aside0.mk (Kd.N_drew HO485.out)
          have n1_:=Aside0.mk (Kd.R_drew HO488.out)
          have n2_:=Aside0.mk (Kd.R_drew HO491.out)
          have n3_:=Aside0.mk (blk_drew BK493.out)
          have n4_:=Aside0.mk (below_drew1 HB.out)
          clear HO485
          clear HO488
          clear HO491
          clear BK493
          clear HB
          have HO485:=n0_
          have HO488:=n1_
          have HO491:=n2_
          have BK493:=n3_
          have HB:=n4_
          clear n0_ n1_ n2_ n3_ n4_
          refine start_ (n:=6) (S:=fun w'=>w'.cell? ⟨gb493,0,none⟩ = some (.slice Ao24 t486.length co24) ∧ w'.cell? ⟨gb493,1,none⟩ = some (.slice Ao26 t489.length co26) ∧ w'.cell? ⟨gb493,2,none⟩ = some (.int .i64 t492)) (ds:=[]) #[false,false,false,false,false,false] (by kernel_rfl) rfl rfl ⟨(blk_cell BK493.out 0).trans rfl,(blk_cell BK493.out 1).trans rfl,(blk_cell BK493.out 2).trans rfl⟩ (fun hHeld=>?_)
          generalize w27.drew = w28 at HO485 HO488 HO491 BK493 HB hHeld ⊢
          refine pure_ (i:=1) (N:=some 19) (v:=?_) (a':=?_) #[false,true,false,false,false,false] rfl rfl (by kernel_rfl) (fun _ _ _ h=>h) (Or.inl ⟨by rfl,?_⟩) ?_ ?_
          rotate_left
          ·intro w'
           go_simp
           with_reducible rfl
          rotate_left
          ·simp only [Act.put,List.setIfInBounds_toArray,List.set_cons_zero,List.set_cons_succ,i64_w,i32_w]
           rfl
          refine pure_ (i:=2) (N:=some 20) (v:=?_) (a':=?_) #[false,true,true,false,false,false] rfl rfl (by kernel_rfl) (fun _ _ _ h=>h) (Or.inl ⟨by rfl,?_⟩) ?_ ?_
          rotate_left
          ·intro w'
           go_simp
           with_reducible rfl
          rotate_left
          ·simp only [Act.put,List.setIfInBounds_toArray,List.set_cons_zero,List.set_cons_succ,i64_w,i32_w]
           rfl
          refine take_ (i:=0) (N:=some 18) (v:=?_) (a':=?_) #[true,true,true,false,false,false] rfl rfl (by kernel_rfl) (fun _ _ _ h=>h) (Or.inl ⟨by rfl,?_⟩) hHeld ?_ ?_
          rotate_left
          ·rintro w' ⟨s0,s1,s2⟩
           go_simp
           with_reducible rfl
          rotate_left
          ·simp only [Act.put,List.setIfInBounds_toArray,List.set_cons_zero,List.set_cons_succ,i64_w,i32_w]
           rfl
          refine one_ (i:=3) (N:=some 21) #[true,true,true,true,false,false] rfl rfl (by kernel_rfl) (by decide) (fun K hK=>?_)
          refine goes_ Try.func14 (by kernel_rfl) rfl #[.slice Ao21 t482.length co21, .string t483] (by rfl) rfl rfl (by (try simp only [List.map_toArray,List.map_cons,List.map_nil]);first|done|rfl|(simp only [List.length_drop,List.length_take];rfl)) ?_
          with_reducible refine (spec_NoticeFor.calls k _ _ t482 t483 t494 t497 t500 _ ?side1 ?side2 A5.out).mono ?_
          (case side1=>repeat (first|exact (Kd.N_reads' HO485.out).2.2|(with_reducible refine Kd.C_alloc ?_ _)|(with_reducible refine Kd.C_drewN ?_ _)|(with_reducible refine Kd.C_drew ?_)))
          (case side2=>exact (Kd.N_reads' HO485.out).2.1)
          rintro e w29 ⟨v495,v498,rfl,ho0,ho1,hb⟩
          refine ⟨_,rfl,?_⟩
          have n0_:=Aside0.mk (Kd.N_mono (Kd.N_told (Kd.N_told (Kd.N_old (by (with_reducible repeat (first|apply Kd.N_alloc|apply Kd.N_drewN|apply Kd.N_drew));exact HO485.out) hb) (Kd.R_base ho0)) (Kd.R_base ho1)) (fun _ h_=>h_.1))
          have n1_:=Aside0.mk (Kd.R_elder' (by (with_reducible repeat (first|apply Kd.R_alloc|apply Kd.R_drewN|apply Kd.R_drew));exact HO488.out) (Kd.R_base ho0) hb)
          have n2_:=Aside0.mk (Kd.R_elder' (by (with_reducible repeat (first|apply Kd.R_alloc|apply Kd.R_drewN|apply Kd.R_drew));exact HO491.out) (Kd.R_base ho1) hb)
          have n3_:=Aside0.mk (Kd.R_lower (Kd.R_new' ho0 (Kd.R_lt (by (with_reducible repeat (first|apply Kd.R_alloc|apply Kd.R_drewN|apply Kd.R_drew));exact HO488.out))) (below_size (by repeat (first|(with_reducible first|exact HB.out|apply below_alloc|apply pw_below_drewN|apply below_drew1|refine below_set ?_ GE493.out)|exact HB.out))))
          have n4_:=Aside0.mk (Kd.R_lower (Kd.R_new' ho1 (Kd.R_lt (by (with_reducible repeat (first|apply Kd.R_alloc|apply Kd.R_drewN|apply Kd.R_drew));exact HO491.out))) (below_size (by repeat (first|(with_reducible first|exact HB.out|apply below_alloc|apply pw_below_drewN|apply below_drew1|refine below_set ?_ GE493.out)|exact HB.out))))
          have n5_:=Aside0.mk (blk_below (g:=gb493) (o:=.cells #[.slice Ao24 t486.length co24, .slice Ao26 t489.length co26, .int .i64 t492] 30 (0,0)) (by (with_reducible repeat (first|refine blk_drewN ?_ _|refine blk_drew ?_|refine blk_alloc ?_ _));exact BK493.out) hb)
          have n6_:=Aside0.mk (below_step (by repeat (first|(with_reducible first|exact HB.out|apply below_alloc|apply pw_below_drewN|apply below_drew1|refine below_set ?_ GE493.out)|exact HB.out)) hb)
          clear HO485
          clear HO488
          clear HO491
          clear BK493
          clear HB
          have HO485:=n0_
          have HO488:=n1_
          have HO491:=n2_
          have HO496:=n3_
          have HO499:=n4_
          have BK493:=n5_
          have HB:=n6_
          clear n0_ n1_ n2_ n3_ n4_ n5_ n6_
          (try clear hb)
          (try clear hb2)
          (try clear hk)
          (try clear hi)
          (try clear ho0)
          (try clear ho1)
          obtain ⟨Ao30,co30,eo30⟩:=Kd.R_slice HO496.out
          (first|subst eo30|(injection eo30 with f1_ f2_ f3_;have f4_:=f1_.symm;have f5_:=f3_.symm;clear f1_ f2_ f3_;subst f4_;subst f5_))
          obtain ⟨Ao31,co31,eo31⟩:=Kd.R_slice HO499.out
          (first|subst eo31|(injection eo31 with f1_ f2_ f3_;have f4_:=f1_.symm;have f5_:=f3_.symm;clear f1_ f2_ f3_;subst f4_;subst f5_))
          refine hK.out _ _ ⟨(blk_cell BK493.out 0).trans rfl,(blk_cell BK493.out 1).trans rfl,(blk_cell BK493.out 2).trans rfl⟩ (fun hHeld=>?_)
          clear hK K
          refine norm_ (a':=?_) ?_ ?_
          rotate_left
          ·show Act.put _ (some 21) _ = _
           simp only [Act.put,List.setIfInBounds_toArray,List.set_cons_zero,List.set_cons_succ,i64_w,i32_w]
           rfl
          refine one_ (i:=4) (N:=some 22) #[true,true,true,true,true,false] rfl rfl (by kernel_rfl) (by decide) (fun K hK=>?_)
          refine goes_ Try.func13 (by kernel_rfl) rfl #[.agg #[.slice Ao24 t486.length co24, .slice Ao26 t489.length co26, .int .i64 t492], .agg #[.slice Ao30 t494.length co30, .slice Ao31 t497.length co31, .int .i64 t500]] (by rfl) rfl rfl (by (try simp only [List.map_toArray,List.map_cons,List.map_nil]);first|done|rfl|(simp only [List.length_drop,List.length_take];rfl)) ?_
          with_reducible refine (laws_lpGroup.calls k _ _ t486 _ _ t489 t492 _ _ t494 _ _ t497 t500 true _ ?side1 ?side2 ?side3 ?side4 ?side5 ?side6 ?side7 ?side8 A6.out).mono ?_
          (case side1=>repeat (first|exact (Kd.R_reads' HO488.out).2.2|(with_reducible refine Kd.C_alloc ?_ _)|(with_reducible refine Kd.C_drewN ?_ _)|(with_reducible refine Kd.C_drew ?_)))
          (case side2=>exact (Kd.R_reads' HO488.out).2.1)
          (case side3=>repeat (first|exact (Kd.R_reads' HO491.out).2.2|(with_reducible refine Kd.C_alloc ?_ _)|(with_reducible refine Kd.C_drewN ?_ _)|(with_reducible refine Kd.C_drew ?_)))
          (case side4=>exact (Kd.R_reads' HO491.out).2.1)
          (case side5=>repeat (first|exact (Kd.R_reads' HO496.out).2.2|(with_reducible refine Kd.C_alloc ?_ _)|(with_reducible refine Kd.C_drewN ?_ _)|(with_reducible refine Kd.C_drew ?_)))
          (case side6=>exact (Kd.R_reads' HO496.out).2.1)
          (case side7=>repeat (first|exact (Kd.R_reads' HO499.out).2.2|(with_reducible refine Kd.C_alloc ?_ _)|(with_reducible refine Kd.C_drewN ?_ _)|(with_reducible refine Kd.C_drew ?_)))
          (case side8=>exact (Kd.R_reads' HO499.out).2.1)
          rintro e w32 ⟨rfl,hb⟩
          refine ⟨_,rfl,?_⟩
          have n0_:=Aside0.mk (Kd.N_below (by (with_reducible repeat (first|apply Kd.N_alloc|apply Kd.N_drewN|apply Kd.N_drew));exact HO485.out) hb)
          have n1_:=Aside0.mk (Kd.R_below (by (with_reducible repeat (first|apply Kd.R_alloc|apply Kd.R_drewN|apply Kd.R_drew));exact HO488.out) hb)
          have n2_:=Aside0.mk (Kd.R_below (by (with_reducible repeat (first|apply Kd.R_alloc|apply Kd.R_drewN|apply Kd.R_drew));exact HO491.out) hb)
          have n3_:=Aside0.mk (Kd.R_below (by (with_reducible repeat (first|apply Kd.R_alloc|apply Kd.R_drewN|apply Kd.R_drew));exact HO496.out) hb)
          have n4_:=Aside0.mk (Kd.R_below (by (with_reducible repeat (first|apply Kd.R_alloc|apply Kd.R_drewN|apply Kd.R_drew));exact HO499.out) hb)
          have n5_:=Aside0.mk (blk_below (g:=gb493) (o:=.cells #[.slice Ao24 t486.length co24, .slice Ao26 t489.length co26, .int .i64 t492] 30 (0,0)) (by (with_reducible repeat (first|refine blk_drewN ?_ _|refine blk_drew ?_|refine blk_alloc ?_ _));exact BK493.out) hb)
          have n6_:=Aside0.mk (below_step (by repeat (first|(with_reducible first|exact HB.out|apply below_alloc|apply pw_below_drewN|apply below_drew1|refine below_set ?_ GE493.out)|exact HB.out)) hb)
          clear HO485
          clear HO488
          clear HO491
          clear HO496
          clear HO499
          clear BK493
          clear HB
          have HO485:=n0_
          have HO488:=n1_
          have HO491:=n2_
          have HO496:=n3_
          have HO499:=n4_
          have BK493:=n5_
          have HB:=n6_
          clear n0_ n1_ n2_ n3_ n4_ n5_ n6_
          (try clear hb)
          (try clear hb2)
          (try clear hk)
          (try clear hi)
          refine hK.out _ _ ⟨(blk_cell BK493.out 0).trans rfl,(blk_cell BK493.out 1).trans rfl,(blk_cell BK493.out 2).trans rfl⟩ (fun hHeld=>?_)
          clear hK K
          refine norm_ (a':=?_) ?_ ?_
          rotate_left
          ·show Act.put _ (some 22) _ = _
           simp only [Act.put,List.setIfInBounds_toArray,List.set_cons_zero,List.set_cons_succ,i64_w,i32_w]
           rfl
          refine pure_ (i:=5) (N:=some 23) (v:=?_) (a':=?_) #[true,true,true,true,true,true] rfl rfl (by kernel_rfl) (fun _ _ _ h=>h) (Or.inl ⟨by rfl,?_⟩) ?_ ?_
          rotate_left
          ·intro w'
           go_simp
           with_reducible rfl
          rotate_left
          ·simp only [Act.put,List.setIfInBounds_toArray,List.set_cons_zero,List.set_cons_succ,i64_w,i32_w]
           rfl
          refine done_ (by kernel_rfl) ?_
          try go_wp2_with (first|((with_reducible refine gate_dst (N:=24) rfl ?_);(try (refine gate_guard (by rfl) ?_;dsimp only));refine Kd.N_lit k30 _ 30 ?hg (N':=24) ?hd (xs:=([]:List (S30))) (inner:=[]) (ok:=(fun k_=>some k_ ≠ (.slice Ao21 t482.length co21:Value).ownBlock ∧ some k_ ≠ (.slice Ao24 t486.length co24:Value).ownBlock ∧ some k_ ≠ (.slice Ao26 t489.length co26:Value).ownBlock ∧ some k_ ≠ (.slice Ao30 t494.length co30:Value).ownBlock ∧ some k_ ≠ (.slice Ao31 t497.length co31:Value).ownBlock ∧ k_ ≠ gb493)) (okp:=(fun k_=>some k_ ≠ (.slice Ao21 t482.length co21:Value).ownBlock ∧ some k_ ≠ (.slice Ao24 t486.length co24:Value).ownBlock ∧ some k_ ≠ (.slice Ao26 t489.length co26:Value).ownBlock ∧ some k_ ≠ (.slice Ao30 t494.length co30:Value).ownBlock ∧ some k_ ≠ (.slice Ao31 t497.length co31:Value).ownBlock ∧ k_ ≠ gb493)) ?hr ?hp (fun _ hk=>hk) ((show ∀ k_,w32.heap.size ≤ k_ → (fun k_=>some k_ ≠ (.slice Ao21 t482.length co21:Value).ownBlock ∧ some k_ ≠ (.slice Ao24 t486.length co24:Value).ownBlock ∧ some k_ ≠ (.slice Ao26 t489.length co26:Value).ownBlock ∧ some k_ ≠ (.slice Ao30 t494.length co30:Value).ownBlock ∧ some k_ ≠ (.slice Ao31 t497.length co31:Value).ownBlock ∧ k_ ≠ gb493) k_ from fun k_ hk=>⟨Kd.fresh' (Kd.N_lt (by (with_reducible repeat (first|apply Kd.N_alloc|apply Kd.N_drewN|apply Kd.N_drew));exact HO485.out)) k_ hk,Kd.fresh' (Kd.R_lt (by (with_reducible repeat (first|apply Kd.R_alloc|apply Kd.R_drewN|apply Kd.R_drew));exact HO488.out)) k_ hk,Kd.fresh' (Kd.R_lt (by (with_reducible repeat (first|apply Kd.R_alloc|apply Kd.R_drewN|apply Kd.R_drew));exact HO491.out)) k_ hk,Kd.fresh' (Kd.R_lt (by (with_reducible repeat (first|apply Kd.R_alloc|apply Kd.R_drewN|apply Kd.R_drew));exact HO496.out)) k_ hk,Kd.fresh' (Kd.R_lt (by (with_reducible repeat (first|apply Kd.R_alloc|apply Kd.R_drewN|apply Kd.R_drew));exact HO499.out)) k_ hk,Kd.freshB (g:=gb493) (o:=.cells #[.slice Ao24 t486.length co24, .slice Ao26 t489.length co26, .int .i64 t492] 30 (0,0)) (by (with_reducible repeat (first|refine blk_drewN ?_ _|refine blk_drew ?_|refine blk_alloc ?_ _));exact BK493.out) k_ hk⟩) _ (Nat.le_refl _)) (Below.refl _ _) (Nat.le_refl _) (by simp) ?_;(case hd=>rfl);(case hg=>rfl);(case hr=>first|(go_simp;done)|(go_simp;rfl));(case hp=>exact (Reps.none _ _));intro v503 w33 ho34 hb hg_ hnew_;clear hg_ hnew_;(first|rw [← Ny502.out] at ho34|(simp only [Int.reduceToNat] at ho34;rw [← Ny502.out] at ho34));have n0_:=Aside0.mk (Kd.N_elder' (by (with_reducible repeat (first|apply Kd.N_alloc|apply Kd.N_drewN|apply Kd.N_drew));exact HO485.out) (Kd.N_base ho34) hb);have n1_:=Aside0.mk (Kd.R_below (by (with_reducible repeat (first|apply Kd.R_alloc|apply Kd.R_drewN|apply Kd.R_drew));exact HO488.out) hb);have n2_:=Aside0.mk (Kd.R_below (by (with_reducible repeat (first|apply Kd.R_alloc|apply Kd.R_drewN|apply Kd.R_drew));exact HO491.out) hb);have n3_:=Aside0.mk (Kd.R_below (by (with_reducible repeat (first|apply Kd.R_alloc|apply Kd.R_drewN|apply Kd.R_drew));exact HO496.out) hb);have n4_:=Aside0.mk (Kd.R_below (by (with_reducible repeat (first|apply Kd.R_alloc|apply Kd.R_drewN|apply Kd.R_drew));exact HO499.out) hb);have n5_:=Aside0.mk (Kd.N_lower ho34 (below_size (by repeat (first|(with_reducible first|exact HB.out|apply below_alloc|apply pw_below_drewN|apply below_drew1|refine below_set ?_ GE493.out)|exact HB.out))));have n6_:=Aside0.mk (blk_below (g:=gb493) (o:=.cells #[.slice Ao24 t486.length co24, .slice Ao26 t489.length co26, .int .i64 t492] 30 (0,0)) (by (with_reducible repeat (first|refine blk_drewN ?_ _|refine blk_drew ?_|refine blk_alloc ?_ _));exact BK493.out) hb);have n7_:=Aside0.mk (below_step (by repeat (first|(with_reducible first|exact HB.out|apply below_alloc|apply pw_below_drewN|apply below_drew1|refine below_set ?_ GE493.out)|exact HB.out)) hb);clear HO485;clear HO488;clear HO491;clear HO496;clear HO499;clear BK493;clear HB;have HO485:=n0_;have HO488:=n1_;have HO491:=n2_;have HO496:=n3_;have HO499:=n4_;have HO504:=n5_;have BK493:=n6_;have HB:=n7_;clear n0_ n1_ n2_ n3_ n4_ n5_ n6_ n7_;clear hb ho34)|((with_reducible refine gate_builtin (b:=.append) (xs:=#[.tmp 24, .tmp 25]) rfl ?_);(try (refine gate_guard (by rfl) ?_;dsimp only));at_builtin;refine Kd.N_append_rows k30 (w0:=w) w.heap.size rfl (.tmp 24) (.tmp 25) 24 30 (.agg #[(.slice none 0 0),(.slice none 0 0),(.int .i64 0)]) 56 rfl Try.underlying24 info30 rfl (by decide) (by omega) v503 y502 t482 _ _ _ (fun k_=>some k_ ≠ (.slice Ao24 t486.length co24:Value).ownBlock ∧ some k_ ≠ (.slice Ao26 t489.length co26:Value).ownBlock ∧ some k_ ≠ (.slice Ao30 t494.length co30:Value).ownBlock ∧ some k_ ≠ (.slice Ao31 t497.length co31:Value).ownBlock ∧ k_ ≠ gb493) (fun k_=>((fun k_=>some k_ ≠ (.slice Ao24 t486.length co24:Value).ownBlock ∧ some k_ ≠ (.slice Ao26 t489.length co26:Value).ownBlock ∧ some k_ ≠ (.slice Ao30 t494.length co30:Value).ownBlock ∧ some k_ ≠ (.slice Ao31 t497.length co31:Value).ownBlock ∧ k_ ≠ gb493)) k_ ∧ some k_ ≠ (v503:Value).ownBlock) rfl rfl ?aO ?aR (fun _ hk=>hk) ?aF ?aB ?aS ?aL ?_;(case aR=>exact (by skip;exact Kd.N_F (Kd.N_mono (ok':=(fun k_=>((fun k_=>some k_ ≠ (.slice Ao24 t486.length co24:Value).ownBlock ∧ some k_ ≠ (.slice Ao26 t489.length co26:Value).ownBlock ∧ some k_ ≠ (.slice Ao30 t494.length co30:Value).ownBlock ∧ some k_ ≠ (.slice Ao31 t497.length co31:Value).ownBlock ∧ k_ ≠ gb493)) k_ ∧ some k_ ≠ (v503:Value).ownBlock)) (HO485.out) (fun k_ hk=>⟨⟨hk.1.1.1.1,⟨hk.1.1.1.2.1,⟨hk.1.1.2,⟨hk.1.2,hk.1.1.1.2.2⟩⟩⟩⟩,hk.2⟩))));(case aB=>exact (by repeat (first|(with_reducible first|exact HB.out|apply below_alloc|apply pw_below_drewN|apply below_drew1|refine below_set ?_ GE493.out)|exact HB.out)));(case aF=>exact (fun k_ hk=>⟨Kd.fresh' (Kd.R_lt (by (with_reducible repeat (first|apply Kd.R_alloc|apply Kd.R_drewN|apply Kd.R_drew));exact HO488.out)) k_ hk,Kd.fresh' (Kd.R_lt (by (with_reducible repeat (first|apply Kd.R_alloc|apply Kd.R_drewN|apply Kd.R_drew));exact HO491.out)) k_ hk,Kd.fresh' (Kd.R_lt (by (with_reducible repeat (first|apply Kd.R_alloc|apply Kd.R_drewN|apply Kd.R_drew));exact HO496.out)) k_ hk,Kd.fresh' (Kd.R_lt (by (with_reducible repeat (first|apply Kd.R_alloc|apply Kd.R_drewN|apply Kd.R_drew));exact HO499.out)) k_ hk,Kd.freshB (g:=gb493) (o:=.cells #[.slice Ao24 t486.length co24, .slice Ao26 t489.length co26, .int .i64 t492] 30 (0,0)) (by (with_reducible repeat (first|refine blk_drewN ?_ _|refine blk_drew ?_|refine blk_alloc ?_ _));exact BK493.out) k_ hk⟩));(case aO=>exact (by (with_reducible repeat (first|apply Kd.N_alloc|apply Kd.N_drewN|apply Kd.N_drew));exact Kd.N_mono HO504.out (fun _ hk=>⟨hk.2.1,⟨hk.2.2.1,⟨hk.2.2.2.1,⟨hk.2.2.2.2.1,hk.2.2.2.2.2⟩⟩⟩⟩)));(case aS=>exact (below_size (by repeat (first|(with_reducible first|exact HB.out|apply below_alloc|apply pw_below_drewN|apply below_drew1|refine below_set ?_ GE493.out)|exact HB.out))));(case aL=>have:=LMc8.out;omega);intro v506 w35 ho hb hg hat;rw [← Ny505.out] at ho;have n0_:=Aside0.mk (Kd.N_afterv (ok:=(fun k_=>some k_ ≠ (.slice Ao24 t486.length co24:Value).ownBlock ∧ some k_ ≠ (.slice Ao26 t489.length co26:Value).ownBlock ∧ some k_ ≠ (.slice Ao30 t494.length co30:Value).ownBlock ∧ some k_ ≠ (.slice Ao31 t497.length co31:Value).ownBlock ∧ k_ ≠ gb493)) (by (with_reducible repeat (first|apply Kd.N_alloc|apply Kd.N_drewN|apply Kd.N_drew));exact Kd.N_mono HO485.out (fun _ hk=>⟨⟨hk.1.1.1.1,⟨hk.1.1.1.2.1,⟨hk.1.1.2,⟨hk.1.2,hk.1.1.1.2.2⟩⟩⟩⟩,hk.2⟩)) hg hat);have n1_:=Aside0.mk (Kd.R_over' (by (with_reducible repeat (first|apply Kd.R_alloc|apply Kd.R_drewN|apply Kd.R_drew));exact HO488.out) (Kd.N_typed (by (with_reducible repeat (first|apply Kd.N_alloc|apply Kd.N_drewN|apply Kd.N_drew));exact HO504.out)) (by decide) hg);have n2_:=Aside0.mk (Kd.R_over' (by (with_reducible repeat (first|apply Kd.R_alloc|apply Kd.R_drewN|apply Kd.R_drew));exact HO491.out) (Kd.N_typed (by (with_reducible repeat (first|apply Kd.N_alloc|apply Kd.N_drewN|apply Kd.N_drew));exact HO504.out)) (by decide) hg);have n3_:=Aside0.mk (blk_grown (g:=gb493) (o:=.cells #[.slice Ao24 t486.length co24, .slice Ao26 t489.length co26, .int .i64 t492] 30 (0,0)) (by (with_reducible repeat (first|refine blk_drewN ?_ _|refine blk_drew ?_|refine blk_alloc ?_ _));exact BK493.out) hg (Kd.N_away HO504.out (fun _ hk=>hk.2.2.2.2.2)));have n4_:=Aside0.mk (Kd.R_over' (by (with_reducible repeat (first|apply Kd.R_alloc|apply Kd.R_drewN|apply Kd.R_drew));exact HO496.out) (Kd.N_typed (by (with_reducible repeat (first|apply Kd.N_alloc|apply Kd.N_drewN|apply Kd.N_drew));exact HO504.out)) (by decide) hg);have n5_:=Aside0.mk (Kd.R_over' (by (with_reducible repeat (first|apply Kd.R_alloc|apply Kd.R_drewN|apply Kd.R_drew));exact HO499.out) (Kd.N_typed (by (with_reducible repeat (first|apply Kd.N_alloc|apply Kd.N_drewN|apply Kd.N_drew));exact HO504.out)) (by decide) hg);have n6_:=Aside0.mk (hb);have n7_:=Aside0.mk (ho);clear HO485;clear HO488;clear HO491;clear BK493;clear HO496;clear HO499;clear HB;clear HO504;have HO485:=n0_;have HO488:=n1_;have HO491:=n2_;have BK493:=n3_;have HO496:=n4_;have HO499:=n5_;have HB:=n6_;have HO507:=n7_;clear n0_ n1_ n2_ n3_ n4_ n5_ n6_ n7_;clear ho hb hg hat)|((with_reducible refine gate_builtin (b:=.append) (xs:=#[.tmp 26, .tmp 27]) rfl ?_);(try (refine gate_guard (by rfl) ?_;dsimp only));at_builtin;refine Kd.N_append_rows k30 (w0:=w) w.heap.size rfl (.tmp 26) (.tmp 27) 24 30 (.agg #[(.slice none 0 0),(.slice none 0 0),(.int .i64 0)]) 56 rfl Try.underlying24 info30 rfl (by decide) (by omega) v506 y505 t482 _ _ _ (fun k_=>some k_ ≠ (.slice Ao24 t486.length co24:Value).ownBlock ∧ some k_ ≠ (.slice Ao26 t489.length co26:Value).ownBlock ∧ some k_ ≠ (.slice Ao30 t494.length co30:Value).ownBlock ∧ some k_ ≠ (.slice Ao31 t497.length co31:Value).ownBlock ∧ k_ ≠ gb493) (fun k_=>((fun k_=>some k_ ≠ (.slice Ao24 t486.length co24:Value).ownBlock ∧ some k_ ≠ (.slice Ao26 t489.length co26:Value).ownBlock ∧ some k_ ≠ (.slice Ao30 t494.length co30:Value).ownBlock ∧ some k_ ≠ (.slice Ao31 t497.length co31:Value).ownBlock ∧ k_ ≠ gb493)) k_ ∧ some k_ ≠ (v506:Value).ownBlock) rfl rfl ?aO ?aR (fun _ hk=>hk) ?aF ?aB ?aS ?aL ?_;(case aR=>exact (by skip;exact Kd.N_F (Kd.N_mono (ok':=(fun k_=>((fun k_=>some k_ ≠ (.slice Ao24 t486.length co24:Value).ownBlock ∧ some k_ ≠ (.slice Ao26 t489.length co26:Value).ownBlock ∧ some k_ ≠ (.slice Ao30 t494.length co30:Value).ownBlock ∧ some k_ ≠ (.slice Ao31 t497.length co31:Value).ownBlock ∧ k_ ≠ gb493)) k_ ∧ some k_ ≠ (v506:Value).ownBlock)) (HO485.out) (fun k_ hk=>⟨⟨hk.1.1,⟨hk.1.2.1,⟨hk.1.2.2.1,⟨hk.1.2.2.2.1,hk.1.2.2.2.2⟩⟩⟩⟩,hk.2⟩))));(case aB=>exact (by repeat (first|(with_reducible first|exact HB.out|apply below_alloc|apply pw_below_drewN|apply below_drew1|refine below_set ?_ GE493.out)|exact HB.out)));(case aF=>exact (fun k_ hk=>⟨Kd.fresh' (Kd.R_lt (by (with_reducible repeat (first|apply Kd.R_alloc|apply Kd.R_drewN|apply Kd.R_drew));exact HO488.out)) k_ hk,Kd.fresh' (Kd.R_lt (by (with_reducible repeat (first|apply Kd.R_alloc|apply Kd.R_drewN|apply Kd.R_drew));exact HO491.out)) k_ hk,Kd.fresh' (Kd.R_lt (by (with_reducible repeat (first|apply Kd.R_alloc|apply Kd.R_drewN|apply Kd.R_drew));exact HO496.out)) k_ hk,Kd.fresh' (Kd.R_lt (by (with_reducible repeat (first|apply Kd.R_alloc|apply Kd.R_drewN|apply Kd.R_drew));exact HO499.out)) k_ hk,Kd.freshB (g:=gb493) (o:=.cells #[.slice Ao24 t486.length co24, .slice Ao26 t489.length co26, .int .i64 t492] 30 (0,0)) (by (with_reducible repeat (first|refine blk_drewN ?_ _|refine blk_drew ?_|refine blk_alloc ?_ _));exact BK493.out) k_ hk⟩));(case aO=>exact (by (with_reducible repeat (first|apply Kd.N_alloc|apply Kd.N_drewN|apply Kd.N_drew));exact HO507.out));(case aS=>exact (below_size (by repeat (first|(with_reducible first|exact HB.out|apply below_alloc|apply pw_below_drewN|apply below_drew1|refine below_set ?_ GE493.out)|exact HB.out))));(case aL=>have:=LMc9.out;omega);intro v509 w36 ho hb hg hat;rw [← Ny508.out] at ho;have n0_:=Aside0.mk (Kd.N_afterv (ok:=(fun k_=>some k_ ≠ (.slice Ao24 t486.length co24:Value).ownBlock ∧ some k_ ≠ (.slice Ao26 t489.length co26:Value).ownBlock ∧ some k_ ≠ (.slice Ao30 t494.length co30:Value).ownBlock ∧ some k_ ≠ (.slice Ao31 t497.length co31:Value).ownBlock ∧ k_ ≠ gb493)) (by (with_reducible repeat (first|apply Kd.N_alloc|apply Kd.N_drewN|apply Kd.N_drew));exact HO485.out) hg hat);have n1_:=Aside0.mk (Kd.R_over' (by (with_reducible repeat (first|apply Kd.R_alloc|apply Kd.R_drewN|apply Kd.R_drew));exact HO488.out) (Kd.N_typed (by (with_reducible repeat (first|apply Kd.N_alloc|apply Kd.N_drewN|apply Kd.N_drew));exact HO507.out)) (by decide) hg);have n2_:=Aside0.mk (Kd.R_over' (by (with_reducible repeat (first|apply Kd.R_alloc|apply Kd.R_drewN|apply Kd.R_drew));exact HO491.out) (Kd.N_typed (by (with_reducible repeat (first|apply Kd.N_alloc|apply Kd.N_drewN|apply Kd.N_drew));exact HO507.out)) (by decide) hg);have n3_:=Aside0.mk (blk_grown (g:=gb493) (o:=.cells #[.slice Ao24 t486.length co24, .slice Ao26 t489.length co26, .int .i64 t492] 30 (0,0)) (by (with_reducible repeat (first|refine blk_drewN ?_ _|refine blk_drew ?_|refine blk_alloc ?_ _));exact BK493.out) hg (Kd.N_away HO507.out (fun _ hk=>hk.2.2.2.2)));have n4_:=Aside0.mk (Kd.R_over' (by (with_reducible repeat (first|apply Kd.R_alloc|apply Kd.R_drewN|apply Kd.R_drew));exact HO496.out) (Kd.N_typed (by (with_reducible repeat (first|apply Kd.N_alloc|apply Kd.N_drewN|apply Kd.N_drew));exact HO507.out)) (by decide) hg);have n5_:=Aside0.mk (Kd.R_over' (by (with_reducible repeat (first|apply Kd.R_alloc|apply Kd.R_drewN|apply Kd.R_drew));exact HO499.out) (Kd.N_typed (by (with_reducible repeat (first|apply Kd.N_alloc|apply Kd.N_drewN|apply Kd.N_drew));exact HO507.out)) (by decide) hg);have n6_:=Aside0.mk (hb);have n7_:=Aside0.mk (ho);clear HO485;clear HO488;clear HO491;clear BK493;clear HO496;clear HO499;clear HB;clear HO507;have HO485:=n0_;have HO488:=n1_;have HO491:=n2_;have BK493:=n3_;have HO496:=n4_;have HO499:=n5_;have HB:=n6_;have HO510:=n7_;clear n0_ n1_ n2_ n3_ n4_ n5_ n6_ n7_;clear ho hb hg hat;obtain ⟨Ao37,co37,eo37⟩:=Kd.N_slice HO510.out;subst eo37)|((with_reducible refine gate_callee (f:=12) rfl ?_);refine goesL_ (some 30) rfl rfl Try.func12 (by kernel_rfl) rfl #[.slice Ao37 y508.length co37, .string t483] rfl (by (try simp only [List.map_toArray,List.map_cons,List.map_nil]);first|done|rfl|(simp only [List.length_drop,List.length_take];rfl)) ?_;(with_reducible refine (impl_NoticeFor.calls _ _ y508 t483 t511 t514 t517 _ ?side1 ?side2 A10.out).mono ?_);(case side1=>repeat (first|exact (Kd.N_reads' HO510.out).2.2|(with_reducible refine Kd.C_alloc ?_ _)|(with_reducible refine Kd.C_drewN ?_ _)|(with_reducible refine Kd.C_drew ?_)));(case side2=>exact (Kd.N_reads' HO510.out).2.1);rintro e w38 ⟨v512,v515,rfl,ho0,ho1,hb⟩;refine ⟨_,rfl,?_⟩;have n0_:=Aside0.mk (Kd.N_mono (Kd.N_told (Kd.N_told (Kd.N_old (by (with_reducible repeat (first|apply Kd.N_alloc|apply Kd.N_drewN|apply Kd.N_drew));exact HO485.out) hb) (Kd.R_base ho0)) (Kd.R_base ho1)) (fun _ h_=>h_.1));have n1_:=Aside0.mk (Kd.R_elder' (by (with_reducible repeat (first|apply Kd.R_alloc|apply Kd.R_drewN|apply Kd.R_drew));exact HO488.out) (Kd.R_base ho0) hb);have n2_:=Aside0.mk (Kd.R_elder' (by (with_reducible repeat (first|apply Kd.R_alloc|apply Kd.R_drewN|apply Kd.R_drew));exact HO491.out) (Kd.R_base ho1) hb);have n3_:=Aside0.mk (Kd.R_elder' (by (with_reducible repeat (first|apply Kd.R_alloc|apply Kd.R_drewN|apply Kd.R_drew));exact HO496.out) (Kd.R_base ho0) hb);have n4_:=Aside0.mk (Kd.R_elder' (by (with_reducible repeat (first|apply Kd.R_alloc|apply Kd.R_drewN|apply Kd.R_drew));exact HO499.out) (Kd.R_base ho1) hb);have n5_:=Aside0.mk (Kd.N_mono (Kd.N_told (Kd.N_told (Kd.N_old (by (with_reducible repeat (first|apply Kd.N_alloc|apply Kd.N_drewN|apply Kd.N_drew));exact HO510.out) hb) (Kd.R_base ho0)) (Kd.R_base ho1)) (fun _ h_=>h_.1));have n6_:=Aside0.mk (Kd.R_lower (Kd.R_new' (Kd.R_new' ho0 (Kd.R_lt (by (with_reducible repeat (first|apply Kd.R_alloc|apply Kd.R_drewN|apply Kd.R_drew));exact HO488.out))) (Kd.R_lt (by (with_reducible repeat (first|apply Kd.R_alloc|apply Kd.R_drewN|apply Kd.R_drew));exact HO496.out))) (below_size (by repeat (first|(with_reducible first|exact HB.out|apply below_alloc|apply pw_below_drewN|apply below_drew1|refine below_set ?_ GE493.out)|exact HB.out))));have n7_:=Aside0.mk (Kd.R_lower (Kd.R_new' (Kd.R_new' ho1 (Kd.R_lt (by (with_reducible repeat (first|apply Kd.R_alloc|apply Kd.R_drewN|apply Kd.R_drew));exact HO491.out))) (Kd.R_lt (by (with_reducible repeat (first|apply Kd.R_alloc|apply Kd.R_drewN|apply Kd.R_drew));exact HO499.out))) (below_size (by repeat (first|(with_reducible first|exact HB.out|apply below_alloc|apply pw_below_drewN|apply below_drew1|refine below_set ?_ GE493.out)|exact HB.out))));have n8_:=Aside0.mk (blk_below (g:=gb493) (o:=.cells #[.slice Ao24 t486.length co24, .slice Ao26 t489.length co26, .int .i64 t492] 30 (0,0)) (by (with_reducible repeat (first|refine blk_drewN ?_ _|refine blk_drew ?_|refine blk_alloc ?_ _));exact BK493.out) hb);have n9_:=Aside0.mk (below_step (by repeat (first|(with_reducible first|exact HB.out|apply below_alloc|apply pw_below_drewN|apply below_drew1|refine below_set ?_ GE493.out)|exact HB.out)) hb);clear HO485;clear HO488;clear HO491;clear HO496;clear HO499;clear HO510;clear BK493;clear HB;have HO485:=n0_;have HO488:=n1_;have HO491:=n2_;have HO496:=n3_;have HO499:=n4_;have HO510:=n5_;have HO513:=n6_;have HO516:=n7_;have BK493:=n8_;have HB:=n9_;clear n0_ n1_ n2_ n3_ n4_ n5_ n6_ n7_ n8_ n9_;(try clear hb);(try clear hb2);(try clear hk);(try clear hi);(try clear ho0);(try clear ho1))|((with_reducible refine gate_dst (N:=6) rfl ?_);(try (refine gate_guard (by rfl) ?_;dsimp only));refine box_event ?hg (N:=6) ?hd (cs:=#[.slice none 0 0, .slice none 0 0, .int .i64 0]) (t:=30) ?hr ?_;(case hd=>rfl);(case hg=>rfl);(case hr=>first|(go_simp;done)|(go_simp;rfl));intro gb518 hg w39 hbox hb;have n0_:=Aside0.mk (Kd.N_below (Kd.N_elderB (by (with_reducible repeat (first|apply Kd.N_alloc|apply Kd.N_drewN|apply Kd.N_drew));exact HO485.out) gb518 (Nat.le_of_eq hg.symm)) hb);have n1_:=Aside0.mk (Kd.R_below (by (with_reducible repeat (first|apply Kd.R_alloc|apply Kd.R_drewN|apply Kd.R_drew));exact HO488.out) hb);have n2_:=Aside0.mk (Kd.R_below (by (with_reducible repeat (first|apply Kd.R_alloc|apply Kd.R_drewN|apply Kd.R_drew));exact HO491.out) hb);have n3_:=Aside0.mk (Kd.R_below (by (with_reducible repeat (first|apply Kd.R_alloc|apply Kd.R_drewN|apply Kd.R_drew));exact HO496.out) hb);have n4_:=Aside0.mk (Kd.R_below (by (with_reducible repeat (first|apply Kd.R_alloc|apply Kd.R_drewN|apply Kd.R_drew));exact HO499.out) hb);have n5_:=Aside0.mk (Kd.N_below (Kd.N_elderB (by (with_reducible repeat (first|apply Kd.N_alloc|apply Kd.N_drewN|apply Kd.N_drew));exact HO510.out) gb518 (Nat.le_of_eq hg.symm)) hb);have n6_:=Aside0.mk (Kd.R_below (by (with_reducible repeat (first|apply Kd.R_alloc|apply Kd.R_drewN|apply Kd.R_drew));exact HO513.out) hb);have n7_:=Aside0.mk (Kd.R_below (by (with_reducible repeat (first|apply Kd.R_alloc|apply Kd.R_drewN|apply Kd.R_drew));exact HO516.out) hb);have n8_:=Aside0.mk (blk_below (g:=gb493) (o:=.cells #[.slice Ao24 t486.length co24, .slice Ao26 t489.length co26, .int .i64 t492] 30 (0,0)) (by (with_reducible repeat (first|refine blk_drewN ?_ _|refine blk_drew ?_|refine blk_alloc ?_ _));exact BK493.out) hb);have n9_:=Aside0.mk (below_step (by repeat (first|(with_reducible first|exact HB.out|apply below_alloc|apply pw_below_drewN|apply below_drew1|refine below_set ?_ GE493.out)|exact HB.out)) hb);have n10_:=Aside0.mk (hbox);have n11_:=Aside0.mk ((by rw [hg];exact (below_size (by repeat (first|(with_reducible first|exact HB.out|apply below_alloc|apply pw_below_drewN|apply below_drew1|refine below_set ?_ GE493.out)|exact HB.out))):w.heap.size ≤ gb518));have n12_:=n11_;have n13_:=Aside0.mk ((by rw [hg];exact Nat.ne_of_lt (blk_lt (g:=gb493) (o:=.cells #[.slice Ao24 t486.length co24, .slice Ao26 t489.length co26, .int .i64 t492] 30 (0,0)) (by (with_reducible repeat (first|refine blk_drewN ?_ _|refine blk_drew ?_|refine blk_alloc ?_ _));exact BK493.out)):gb493 ≠ gb518));have n14_:=Aside0.mk ((by rw [hg];exact Nat.ne_of_gt (blk_lt (g:=gb493) (o:=.cells #[.slice Ao24 t486.length co24, .slice Ao26 t489.length co26, .int .i64 t492] 30 (0,0)) (by (with_reducible repeat (first|refine blk_drewN ?_ _|refine blk_drew ?_|refine blk_alloc ?_ _));exact BK493.out)):gb518 ≠ gb493));clear HO485;clear HO488;clear HO491;clear HO496;clear HO499;clear HO510;clear HO513;clear HO516;clear BK493;clear HB;have HO485:=n0_;have HO488:=n1_;have HO491:=n2_;have HO496:=n3_;have HO499:=n4_;have HO510:=n5_;have HO513:=n6_;have HO516:=n7_;have BK493:=n8_;have HB:=n9_;have BK518:=n10_;have GW518:=n11_;have GE518:=n12_;have NB493_518:=n13_;have NB518_493:=n14_;clear n0_ n1_ n2_ n3_ n4_ n5_ n6_ n7_ n8_ n9_ n10_ n11_ n12_ n13_ n14_;clear hb hbox hg;obtain ⟨Ao40,co40,eo40⟩:=Kd.R_slice HO513.out;subst eo40;have hnb41:=NB518_493.out;have hnc41:=NB493_518.out;have hcz42_0:w39.cell? ⟨gb518,0,none⟩ = some (.slice none 0 0):=(blk_cell BK518.out 0).trans rfl;have hcz42_1:w39.cell? ⟨gb518,1,none⟩ = some (.slice none 0 0):=(blk_cell BK518.out 1).trans rfl;have hcz42_2:w39.cell? ⟨gb518,2,none⟩ = some (.int .i64 0):=(blk_cell BK518.out 2).trans rfl;have hfz42_0:=blk_frozen BK518.out 0;have hfz42_1:=blk_frozen BK518.out 1;have hfz42_2:=blk_frozen BK518.out 2;obtain ⟨Ao43,co43,eo43⟩:=Kd.R_slice HO516.out;subst eo43))
          have n0_:Aside0 (Kd.N k30 30 (((w39.setCell ⟨gb518,0,none⟩ (.slice Ao40 t511.length co40)).setCell ⟨gb518,1,none⟩ (.slice Ao43 t514.length co43)).setCell ⟨gb518,2,none⟩ (.int .i64 t517)) w.heap.size (fun k_=>some k_ ≠ (.slice Ao24 t486.length co24:Value).ownBlock ∧ some k_ ≠ (.slice Ao26 t489.length co26:Value).ownBlock ∧ some k_ ≠ (.slice Ao30 t494.length co30:Value).ownBlock ∧ some k_ ≠ (.slice Ao31 t497.length co31:Value).ownBlock ∧ some k_ ≠ (.slice Ao37 y508.length co37:Value).ownBlock ∧ some k_ ≠ (.slice Ao40 t511.length co40:Value).ownBlock ∧ some k_ ≠ (.slice Ao43 t514.length co43:Value).ownBlock ∧ k_ ≠ gb493 ∧ k_ ≠ gb518) (.slice Ao21 t482.length co21) t482):=⟨by (with_reducible repeat (first|apply Kd.N_alloc|apply Kd.N_drewN|apply Kd.N_drew));exact Kd.N_mono (Kd.N_far (p:=⟨gb518,2,none⟩) (Kd.N_far (p:=⟨gb518,1,none⟩) (Kd.N_far (p:=⟨gb518,0,none⟩) (Kd.N_mono HO485.out (fun k_ hk=>(⟨hk,hk.2⟩:_ ∧ k_ ≠ gb518))) (fun _ hk=>hk.2) (.slice Ao40 t511.length co40)) (fun _ hk=>hk.2) (.slice Ao43 t514.length co43)) (fun _ hk=>hk.2) (.int .i64 t517)) (fun _ hk=>⟨hk.1.1.1.1.1.1,⟨hk.1.1.1.1.1.2.1,⟨hk.1.1.1.1.1.2.2.1,⟨hk.1.1.1.1.1.2.2.2.1,⟨hk.1.1.1.1.2,⟨hk.1.1.1.2,⟨hk.1.1.2,⟨hk.1.1.1.1.1.2.2.2.2,hk.1.2⟩⟩⟩⟩⟩⟩⟩⟩)⟩
          have n1_:Aside0 (Kd.R Kd.string 9 (((w39.setCell ⟨gb518,0,none⟩ (.slice Ao40 t511.length co40)).setCell ⟨gb518,1,none⟩ (.slice Ao43 t514.length co43)).setCell ⟨gb518,2,none⟩ (.int .i64 t517)) w.heap.size (fun k_=>some k_ ≠ (.slice Ao30 t494.length co30:Value).ownBlock ∧ some k_ ≠ (.slice Ao40 t511.length co40:Value).ownBlock) (.slice Ao24 t486.length co24) t486):=⟨by (with_reducible repeat (first|apply Kd.R_alloc|apply Kd.R_drewN|apply Kd.R_drew));exact Kd.R_mono (Kd.R_far (p:=⟨gb518,2,none⟩) (Kd.R_far (p:=⟨gb518,1,none⟩) (Kd.R_far (p:=⟨gb518,0,none⟩) (Kd.R_types HO488.out BK518.out (by decide)) (fun _ hk=>hk.2) (.slice Ao40 t511.length co40)) (fun _ hk=>hk.2) (.slice Ao43 t514.length co43)) (fun _ hk=>hk.2) (.int .i64 t517)) (fun _ hk=>⟨hk.1.1.2,hk.1.2⟩)⟩
          have n2_:Aside0 (Kd.R k57 57 (((w39.setCell ⟨gb518,0,none⟩ (.slice Ao40 t511.length co40)).setCell ⟨gb518,1,none⟩ (.slice Ao43 t514.length co43)).setCell ⟨gb518,2,none⟩ (.int .i64 t517)) w.heap.size (fun k_=>some k_ ≠ (.slice Ao31 t497.length co31:Value).ownBlock ∧ some k_ ≠ (.slice Ao43 t514.length co43:Value).ownBlock) (.slice Ao26 t489.length co26) t489):=⟨by (with_reducible repeat (first|apply Kd.R_alloc|apply Kd.R_drewN|apply Kd.R_drew));exact Kd.R_mono (Kd.R_far (p:=⟨gb518,2,none⟩) (Kd.R_far (p:=⟨gb518,1,none⟩) (Kd.R_far (p:=⟨gb518,0,none⟩) (Kd.R_types HO491.out BK518.out (by decide)) (fun _ hk=>hk.2) (.slice Ao40 t511.length co40)) (fun _ hk=>hk.2) (.slice Ao43 t514.length co43)) (fun _ hk=>hk.2) (.int .i64 t517)) (fun _ hk=>⟨hk.1.1.2,hk.1.2⟩)⟩
          have n3_:Aside0 (Kd.R Kd.string 9 (((w39.setCell ⟨gb518,0,none⟩ (.slice Ao40 t511.length co40)).setCell ⟨gb518,1,none⟩ (.slice Ao43 t514.length co43)).setCell ⟨gb518,2,none⟩ (.int .i64 t517)) w.heap.size (fun k_=>some k_ ≠ (.slice Ao24 t486.length co24:Value).ownBlock ∧ some k_ ≠ (.slice Ao40 t511.length co40:Value).ownBlock) (.slice Ao30 t494.length co30) t494):=⟨by (with_reducible repeat (first|apply Kd.R_alloc|apply Kd.R_drewN|apply Kd.R_drew));exact Kd.R_mono (Kd.R_far (p:=⟨gb518,2,none⟩) (Kd.R_far (p:=⟨gb518,1,none⟩) (Kd.R_far (p:=⟨gb518,0,none⟩) (Kd.R_types HO496.out BK518.out (by decide)) (fun _ hk=>hk.2) (.slice Ao40 t511.length co40)) (fun _ hk=>hk.2) (.slice Ao43 t514.length co43)) (fun _ hk=>hk.2) (.int .i64 t517)) (fun _ hk=>⟨hk.1.1.2,hk.1.2⟩)⟩
          have n4_:Aside0 (Kd.R k57 57 (((w39.setCell ⟨gb518,0,none⟩ (.slice Ao40 t511.length co40)).setCell ⟨gb518,1,none⟩ (.slice Ao43 t514.length co43)).setCell ⟨gb518,2,none⟩ (.int .i64 t517)) w.heap.size (fun k_=>some k_ ≠ (.slice Ao26 t489.length co26:Value).ownBlock ∧ some k_ ≠ (.slice Ao43 t514.length co43:Value).ownBlock) (.slice Ao31 t497.length co31) t497):=⟨by (with_reducible repeat (first|apply Kd.R_alloc|apply Kd.R_drewN|apply Kd.R_drew));exact Kd.R_mono (Kd.R_far (p:=⟨gb518,2,none⟩) (Kd.R_far (p:=⟨gb518,1,none⟩) (Kd.R_far (p:=⟨gb518,0,none⟩) (Kd.R_types HO499.out BK518.out (by decide)) (fun _ hk=>hk.2) (.slice Ao40 t511.length co40)) (fun _ hk=>hk.2) (.slice Ao43 t514.length co43)) (fun _ hk=>hk.2) (.int .i64 t517)) (fun _ hk=>⟨hk.1.1.2,hk.1.2⟩)⟩
          have n5_:Aside0 (Kd.N k30 30 (((w39.setCell ⟨gb518,0,none⟩ (.slice Ao40 t511.length co40)).setCell ⟨gb518,1,none⟩ (.slice Ao43 t514.length co43)).setCell ⟨gb518,2,none⟩ (.int .i64 t517)) w.heap.size (fun k_=>some k_ ≠ (.slice Ao24 t486.length co24:Value).ownBlock ∧ some k_ ≠ (.slice Ao26 t489.length co26:Value).ownBlock ∧ some k_ ≠ (.slice Ao30 t494.length co30:Value).ownBlock ∧ some k_ ≠ (.slice Ao31 t497.length co31:Value).ownBlock ∧ some k_ ≠ (.slice Ao40 t511.length co40:Value).ownBlock ∧ some k_ ≠ (.slice Ao43 t514.length co43:Value).ownBlock ∧ k_ ≠ gb493 ∧ k_ ≠ gb518) (.slice Ao37 y508.length co37) y508):=⟨by (with_reducible repeat (first|apply Kd.N_alloc|apply Kd.N_drewN|apply Kd.N_drew));exact Kd.N_mono (Kd.N_far (p:=⟨gb518,2,none⟩) (Kd.N_far (p:=⟨gb518,1,none⟩) (Kd.N_far (p:=⟨gb518,0,none⟩) (Kd.N_mono HO510.out (fun k_ hk=>(⟨hk,hk.2⟩:_ ∧ k_ ≠ gb518))) (fun _ hk=>hk.2) (.slice Ao40 t511.length co40)) (fun _ hk=>hk.2) (.slice Ao43 t514.length co43)) (fun _ hk=>hk.2) (.int .i64 t517)) (fun _ hk=>⟨hk.1.1.1.1.1,⟨hk.1.1.1.1.2.1,⟨hk.1.1.1.1.2.2.1,⟨hk.1.1.1.1.2.2.2.1,⟨hk.1.1.1.2,⟨hk.1.1.2,⟨hk.1.1.1.1.2.2.2.2,hk.1.2⟩⟩⟩⟩⟩⟩⟩)⟩
          have n6_:Aside0 (Kd.R Kd.string 9 (((w39.setCell ⟨gb518,0,none⟩ (.slice Ao40 t511.length co40)).setCell ⟨gb518,1,none⟩ (.slice Ao43 t514.length co43)).setCell ⟨gb518,2,none⟩ (.int .i64 t517)) w.heap.size (fun k_=>some k_ ≠ (.slice Ao24 t486.length co24:Value).ownBlock ∧ some k_ ≠ (.slice Ao30 t494.length co30:Value).ownBlock) (.slice Ao40 t511.length co40) t511):=⟨by (with_reducible repeat (first|apply Kd.R_alloc|apply Kd.R_drewN|apply Kd.R_drew));exact Kd.R_mono (Kd.R_far (p:=⟨gb518,2,none⟩) (Kd.R_far (p:=⟨gb518,1,none⟩) (Kd.R_far (p:=⟨gb518,0,none⟩) (Kd.R_types HO513.out BK518.out (by decide)) (fun _ hk=>hk.2) (.slice Ao40 t511.length co40)) (fun _ hk=>hk.2) (.slice Ao43 t514.length co43)) (fun _ hk=>hk.2) (.int .i64 t517)) (fun _ hk=>⟨hk.1.1.2,hk.1.2⟩)⟩
          have n7_:Aside0 (Kd.R k57 57 (((w39.setCell ⟨gb518,0,none⟩ (.slice Ao40 t511.length co40)).setCell ⟨gb518,1,none⟩ (.slice Ao43 t514.length co43)).setCell ⟨gb518,2,none⟩ (.int .i64 t517)) w.heap.size (fun k_=>some k_ ≠ (.slice Ao26 t489.length co26:Value).ownBlock ∧ some k_ ≠ (.slice Ao31 t497.length co31:Value).ownBlock) (.slice Ao43 t514.length co43) t514):=⟨by (with_reducible repeat (first|apply Kd.R_alloc|apply Kd.R_drewN|apply Kd.R_drew));exact Kd.R_mono (Kd.R_far (p:=⟨gb518,2,none⟩) (Kd.R_far (p:=⟨gb518,1,none⟩) (Kd.R_far (p:=⟨gb518,0,none⟩) (Kd.R_types HO516.out BK518.out (by decide)) (fun _ hk=>hk.2) (.slice Ao40 t511.length co40)) (fun _ hk=>hk.2) (.slice Ao43 t514.length co43)) (fun _ hk=>hk.2) (.int .i64 t517)) (fun _ hk=>⟨hk.1.1.2,hk.1.2⟩)⟩
          have n8_:Aside0 ((((w39.setCell ⟨gb518,0,none⟩ (.slice Ao40 t511.length co40)).setCell ⟨gb518,1,none⟩ (.slice Ao43 t514.length co43)).setCell ⟨gb518,2,none⟩ (.int .i64 t517)).heap[gb493]? = some (.cells #[.slice Ao24 t486.length co24, .slice Ao26 t489.length co26, .int .i64 t492] 30 (0,0))):=⟨by (with_reducible repeat (first|refine blk_drewN ?_ _|refine blk_drew ?_|refine blk_alloc ?_ _));refine blk_far ?_ NB493_518.out _;(with_reducible repeat (first|refine blk_drewN ?_ _|refine blk_drew ?_|refine blk_alloc ?_ _));refine blk_far ?_ NB493_518.out _;(with_reducible repeat (first|refine blk_drewN ?_ _|refine blk_drew ?_|refine blk_alloc ?_ _));refine blk_far ?_ NB493_518.out _;(with_reducible repeat (first|refine blk_drewN ?_ _|refine blk_drew ?_|refine blk_alloc ?_ _));exact BK493.out⟩
          have n9_:Aside0 ((((w39.setCell ⟨gb518,0,none⟩ (.slice Ao40 t511.length co40)).setCell ⟨gb518,1,none⟩ (.slice Ao43 t514.length co43)).setCell ⟨gb518,2,none⟩ (.int .i64 t517)).heap[gb518]? = some (.cells #[.slice Ao40 t511.length co40, .slice Ao43 t514.length co43, .int .i64 t517] 30 (0,0))):=⟨by (with_reducible repeat (first|refine blk_drewN ?_ _|refine blk_drew ?_|refine blk_alloc ?_ _));refine blk_put (cs:=#[.slice Ao40 t511.length co40, .slice Ao43 t514.length co43, .int .i64 0]) ?_ 2 _ rfl;(with_reducible repeat (first|refine blk_drewN ?_ _|refine blk_drew ?_|refine blk_alloc ?_ _));refine blk_put (cs:=#[.slice Ao40 t511.length co40, .slice none 0 0, .int .i64 0]) ?_ 1 _ rfl;(with_reducible repeat (first|refine blk_drewN ?_ _|refine blk_drew ?_|refine blk_alloc ?_ _));refine blk_put (cs:=#[.slice none 0 0, .slice none 0 0, .int .i64 0]) ?_ 0 _ rfl;(with_reducible repeat (first|refine blk_drewN ?_ _|refine blk_drew ?_|refine blk_alloc ?_ _));exact BK518.out⟩
          have n10_:Aside0 (Below w.heap.size w (((w39.setCell ⟨gb518,0,none⟩ (.slice Ao40 t511.length co40)).setCell ⟨gb518,1,none⟩ (.slice Ao43 t514.length co43)).setCell ⟨gb518,2,none⟩ (.int .i64 t517))):=⟨by repeat (first|(with_reducible first|exact HB.out|apply below_alloc|apply pw_below_drewN|apply below_drew1|refine below_set ?_ GE493.out|refine below_set ?_ GE518.out)|exact HB.out)⟩
          (try clear HO485)
          (try clear HO488)
          (try clear HO491)
          (try clear HO496)
          (try clear HO499)
          (try clear HO510)
          (try clear HO513)
          (try clear HO516)
          (try clear BK493)
          (try clear BK518)
          (try clear HB)
          generalize (((w39.setCell ⟨gb518,0,none⟩ (.slice Ao40 t511.length co40)).setCell ⟨gb518,1,none⟩ (.slice Ao43 t514.length co43)).setCell ⟨gb518,2,none⟩ (.int .i64 t517)) = w44 at n0_ n1_ n2_ n3_ n4_ n5_ n6_ n7_ n8_ n9_ n10_ ⊢
          have HO485:=n0_
          have HO488:=n1_
          have HO491:=n2_
          have HO496:=n3_
          have HO499:=n4_
          have HO510:=n5_
          have HO513:=n6_
          have HO516:=n7_
          have BK493:=n8_
          have BK518:=n9_
          have HB:=n10_
          clear n0_ n1_ n2_ n3_ n4_ n5_ n6_ n7_ n8_ n9_ n10_
          have n0_:=Aside0.mk (Kd.N_drew HO485.out)
          have n1_:=Aside0.mk (Kd.R_drew HO488.out)
          have n2_:=Aside0.mk (Kd.R_drew HO491.out)
          have n3_:=Aside0.mk (Kd.R_drew HO496.out)
          have n4_:=Aside0.mk (Kd.R_drew HO499.out)
          have n5_:=Aside0.mk (Kd.N_drew HO510.out)
          have n6_:=Aside0.mk (Kd.R_drew HO513.out)
          have n7_:=Aside0.mk (Kd.R_drew HO516.out)
          have n8_:=Aside0.mk (blk_drew BK493.out)
          have n9_:=Aside0.mk (blk_drew BK518.out)
          have n10_:=Aside0.mk (below_drew1 HB.out)
          clear HO485
          clear HO488
          clear HO491
          clear HO496
          clear HO499
          clear HO510
          clear HO513
          clear HO516
          clear BK493
          clear BK518
          clear HB
          have HO485:=n0_
          have HO488:=n1_
          have HO491:=n2_
          have HO496:=n3_
          have HO499:=n4_
          have HO510:=n5_
          have HO513:=n6_
          have HO516:=n7_
          have BK493:=n8_
          have BK518:=n9_
          have HB:=n10_
          clear n0_ n1_ n2_ n3_ n4_ n5_ n6_ n7_ n8_ n9_ n10_
          have q46:((t489.length:Int):Int) ≤ ((t514.length:Int):Int):=of_decide_eq_true (by first|(with_reducible assumption)|assumption)
          obtain ⟨i046,hi046,_,hsz46,_⟩:=info_parts info57
          have hroom46:t514.length ≤ co43:=(Kd.R_reads' HO516.out).2.1
          have hC46:Kd.F k57 _ _ Ao43 t514.length t514:=(Kd.V_at (base:=w.heap.size) (Kd.R_V (Kd.R_types (Kd.R_types (Kd.R_apart' (Kd.R_apart' (Kd.R_apart' (Kd.R_apart' (Kd.R_apart' (HO516.out) (Kd.N_typed HO485.out) (by decide)) (Kd.R_typed HO488.out) (by decide)) (Kd.R_typed HO496.out) (by decide)) (Kd.N_typed HO510.out) (by decide)) (Kd.R_typed HO513.out) (by decide)) BK493.out (by decide)) BK518.out (by decide)))).2.2
          have hcut46:=cut_to (P:=Try.prog) 28 57 .i64 Try.underlying28 hi046 Ao43 t514.length co43 (t489.length:Int) (of_decide_eq_true (by first|(with_reducible assumption)|assumption)) q46 hroom46
          have hr46:=Kd.F_take (m:=((t489.length:Int):Int).toNat) hC46 (by omega)
          have hy46:y519.length = ((t489.length:Int):Int).toNat:=(by rw [Ny519.out,List.length_take];omega)
          rw [← Ny519.out] at hr46
          rw [← hy46] at hcut46
          have HO523:=Aside0.mk (show Kd.V k57 57 _ w.heap.size _ (.slice Ao43 y519.length co43) y519 from Kd.V_mk (by omega) hr46)
          have HC523:=Aside0.mk (show y519.length ≤ co43 from by omega)
          clear hr46 hC46 hroom46 hi046 hsz46
          have KY46:=Aside0.mk hy46
          clear hy46
          replace q46:=eq_true q46
          refine start_ (n:=38) (S:=fun w'=>w'.cell? ⟨gb518,0,none⟩ = some (.slice Ao40 t511.length co40) ∧ w'.cell? ⟨gb518,1,none⟩ = some (.slice Ao43 t514.length co43) ∧ w'.cell? ⟨gb518,2,none⟩ = some (.int .i64 t517) ∧ w'.cell? ⟨gb493,0,none⟩ = some (.slice Ao24 t486.length co24) ∧ w'.cell? ⟨gb493,1,none⟩ = some (.slice Ao26 t489.length co26) ∧ w'.cell? ⟨gb493,2,none⟩ = some (.int .i64 t492)) (ds:=[]) #[false,false,false,false,false,false,false,false,false,false,false,false,false,false,false,false,false,false,false,false,false,false,false,false,false,false,false,false,false,false,false,false,false,false,false,false,false,false] (by kernel_rfl) rfl rfl ⟨(blk_cell BK518.out 0).trans rfl,(blk_cell BK518.out 1).trans rfl,(blk_cell BK518.out 2).trans rfl,(blk_cell BK493.out 0).trans rfl,(blk_cell BK493.out 1).trans rfl,(blk_cell BK493.out 2).trans rfl⟩ (fun hHeld=>?_);refine with_tabW laws_FnForTwo.tab8 laws_FnForTwo.bits8 (fun HT_ HW_=>?_)
          generalize w44.drew = w45 at HO485 HO488 HO491 HO496 HO499 HO510 HO513 HO516 BK493 BK518 HB HO523 hHeld ⊢
          refine pure_ (i:=0) (N:=some 31) (v:=?_) (a':=?_) #[true,false,false,false,false,false,false,false,false,false,false,false,false,false,false,false,false,false,false,false,false,false,false,false,false,false,false,false,false,false,false,false,false,false,false,false,false,false] rfl rfl (any_of HT_.out (by kernel_rfl)) (fun _ _ _ h=>h) (Or.inl ⟨by rfl,?_⟩) ?_ ?_
          rotate_left
          ·intro w'
           go_simp
           with_reducible rfl
          rotate_left
          ·simp only [Act.put,List.setIfInBounds_toArray,List.set_cons_zero,List.set_cons_succ,i64_w,i32_w]
           rfl
          refine pure_ (i:=2) (N:=some 33) (v:=?_) (a':=?_) #[true,false,true,false,false,false,false,false,false,false,false,false,false,false,false,false,false,false,false,false,false,false,false,false,false,false,false,false,false,false,false,false,false,false,false,false,false,false] rfl rfl (any_of HT_.out (by kernel_rfl)) (fun _ _ _ h=>h) (Or.inl ⟨by rfl,?_⟩) ?_ ?_
          rotate_left
          ·intro w'
           go_simp
           with_reducible rfl
          rotate_left
          ·simp only [Act.put,List.setIfInBounds_toArray,List.set_cons_zero,List.set_cons_succ,i64_w,i32_w]
           rfl
          refine take_ (i:=1) (N:=some 32) (v:=?_) (a':=?_) #[true,true,true,false,false,false,false,false,false,false,false,false,false,false,false,false,false,false,false,false,false,false,false,false,false,false,false,false,false,false,false,false,false,false,false,false,false,false] rfl rfl (take_ofW HT_.out HW_.out (by kernel_rfl)) (fun _ _ _ h=>h) (Or.inl ⟨by rfl,?_⟩) hHeld ?_ ?_
          rotate_left
          ·rintro w' ⟨s0,s1,s2,s3,s4,s5⟩
           go_simp
           with_reducible rfl
          rotate_left
          ·simp only [Act.put,List.setIfInBounds_toArray,List.set_cons_zero,List.set_cons_succ,i64_w,i32_w]
           rfl
          refine take_ (i:=3) (N:=some 34) (v:=?_) (a':=?_) #[true,true,true,true,false,false,false,false,false,false,false,false,false,false,false,false,false,false,false,false,false,false,false,false,false,false,false,false,false,false,false,false,false,false,false,false,false,false] rfl rfl (take_ofW HT_.out HW_.out (by kernel_rfl)) (fun _ _ _ h=>h) (Or.inl ⟨by rfl,?_⟩) hHeld ?_ ?_
          rotate_left
          ·rintro w' ⟨s0,s1,s2,s3,s4,s5⟩
           go_simp
           with_reducible rfl
          rotate_left
          ·simp only [Act.put,List.setIfInBounds_toArray,List.set_cons_zero,List.set_cons_succ,i64_w,i32_w]
           rfl
          refine pure_ (i:=4) (N:=some 35) (v:=?_) (a':=?_) #[true,true,true,true,true,false,false,false,false,false,false,false,false,false,false,false,false,false,false,false,false,false,false,false,false,false,false,false,false,false,false,false,false,false,false,false,false,false] rfl rfl (any_of HT_.out (by kernel_rfl)) (fun _ _ _ h=>h) (Or.inl ⟨by rfl,?_⟩) ?_ ?_
          rotate_left
          ·intro w'
           go_simp
           with_reducible rfl
          rotate_left
          ·simp only [Act.put,List.setIfInBounds_toArray,List.set_cons_zero,List.set_cons_succ,i64_w,i32_w]
           rfl
          refine pure_ (i:=5) (N:=some 36) (v:=?_) (a':=?_) #[true,true,true,true,true,true,false,false,false,false,false,false,false,false,false,false,false,false,false,false,false,false,false,false,false,false,false,false,false,false,false,false,false,false,false,false,false,false] rfl rfl (any_of HT_.out (by kernel_rfl)) (fun _ _ _ h=>h) (Or.inl ⟨by rfl,?_⟩) ?_ ?_
          rotate_left
          ·intro w'
           go_simp
           with_reducible rfl
          rotate_left
          ·simp only [Act.put,List.setIfInBounds_toArray,List.set_cons_zero,List.set_cons_succ,i64_w,i32_w]
           rfl
          refine pure_ (i:=6) (N:=some 37) (v:=?_) (a':=?_) #[true,true,true,true,true,true,true,false,false,false,false,false,false,false,false,false,false,false,false,false,false,false,false,false,false,false,false,false,false,false,false,false,false,false,false,false,false,false] rfl rfl (any_of HT_.out (by kernel_rfl)) (fun _ _ _ h=>h) (Or.inl ⟨by rfl,?_⟩) ?_ ?_
          rotate_left
          ·intro w'
           go_simp
           with_reducible rfl
          rotate_left
          ·simp only [Act.put,List.setIfInBounds_toArray,List.set_cons_zero,List.set_cons_succ,i64_w,i32_w]
           rfl
          refine pure_ (i:=9) (N:=some 40) (v:=?_) (a':=?_) #[true,true,true,true,true,true,true,false,false,true,false,false,false,false,false,false,false,false,false,false,false,false,false,false,false,false,false,false,false,false,false,false,false,false,false,false,false,false] rfl rfl (any_of HT_.out (by kernel_rfl)) (fun _ _ _ h=>h) (Or.inl ⟨by rfl,?_⟩) ?_ ?_
          rotate_left
          ·intro w'
           go_simp
           with_reducible rfl
          rotate_left
          ·simp only [Act.put,List.setIfInBounds_toArray,List.set_cons_zero,List.set_cons_succ,i64_w,i32_w]
           rfl
          refine take_ (i:=7) (N:=some 38) (v:=?_) (a':=?_) #[true,true,true,true,true,true,true,true,false,true,false,false,false,false,false,false,false,false,false,false,false,false,false,false,false,false,false,false,false,false,false,false,false,false,false,false,false,false] rfl rfl (take_ofW HT_.out HW_.out (by kernel_rfl)) (fun _ _ _ h=>h) (Or.inl ⟨by rfl,?_⟩) hHeld ?_ ?_
          rotate_left
          ·rintro w' ⟨s0,s1,s2,s3,s4,s5⟩
           go_simp
           with_reducible rfl
          rotate_left
          ·simp only [Act.put,List.setIfInBounds_toArray,List.set_cons_zero,List.set_cons_succ,i64_w,i32_w]
           rfl
          refine pure_ (i:=8) (N:=some 39) (v:=?_) (a':=?_) #[true,true,true,true,true,true,true,true,true,true,false,false,false,false,false,false,false,false,false,false,false,false,false,false,false,false,false,false,false,false,false,false,false,false,false,false,false,false] rfl rfl (any_of HT_.out (by kernel_rfl)) (fun _ _ _ h=>h) (Or.inl ⟨by rfl,?_⟩) ?_ ?_
          rotate_left
          ·intro w'
           go_simp
           with_reducible rfl
          rotate_left
          ·simp only [Act.put,List.setIfInBounds_toArray,List.set_cons_zero,List.set_cons_succ,i64_w,i32_w]
           rfl
          refine take_ (i:=10) (N:=some 41) (v:=?_) (a':=?_) #[true,true,true,true,true,true,true,true,true,true,true,false,false,false,false,false,false,false,false,false,false,false,false,false,false,false,false,false,false,false,false,false,false,false,false,false,false,false] rfl rfl (take_ofW HT_.out HW_.out (by kernel_rfl)) (fun _ _ _ h=>h) (Or.inl ⟨by rfl,?_⟩) hHeld ?_ ?_
          rotate_left
          ·rintro w' ⟨s0,s1,s2,s3,s4,s5⟩
           go_simp
           with_reducible rfl
          rotate_left
          ·simp only [Act.put,List.setIfInBounds_toArray,List.set_cons_zero,List.set_cons_succ,i64_w,i32_w]
           rfl
          refine pure_ (i:=11) (N:=some 42) (v:=?_) (a':=?_) #[true,true,true,true,true,true,true,true,true,true,true,true,false,false,false,false,false,false,false,false,false,false,false,false,false,false,false,false,false,false,false,false,false,false,false,false,false,false] rfl rfl (any_of HT_.out (by kernel_rfl)) (fun _ _ _ h=>h) (Or.inl ⟨by rfl,?_⟩) ?_ ?_
          rotate_left
          ·intro w'
           go_simp
           with_reducible rfl
          rotate_left
          ·simp only [Act.put,List.setIfInBounds_toArray,List.set_cons_zero,List.set_cons_succ,i64_w,i32_w]
           rfl
          refine pure_ (i:=12) (N:=some 43) (v:=?_) (a':=?_) #[true,true,true,true,true,true,true,true,true,true,true,true,true,false,false,false,false,false,false,false,false,false,false,false,false,false,false,false,false,false,false,false,false,false,false,false,false,false] rfl rfl (any_of HT_.out (by kernel_rfl)) (fun _ _ _ h=>h) (Or.inl ⟨by rfl,?_⟩) ?_ ?_
          rotate_left
          ·intro w'
           go_simp
           with_reducible rfl
          rotate_left
          ·simp only [Act.put,List.setIfInBounds_toArray,List.set_cons_zero,List.set_cons_succ,i64_w,i32_w]
           rfl
          refine pure_ (i:=13) (N:=some 44) (v:=?_) (a':=?_) #[true,true,true,true,true,true,true,true,true,true,true,true,true,true,false,false,false,false,false,false,false,false,false,false,false,false,false,false,false,false,false,false,false,false,false,false,false,false] rfl rfl (any_of HT_.out (by kernel_rfl)) (fun _ _ _ h=>h) (Or.inl ⟨by rfl,?_⟩) ?_ ?_
          rotate_left
          ·intro w'
           go_simp
           with_reducible rfl
          rotate_left
          ·simp only [Act.put,List.setIfInBounds_toArray,List.set_cons_zero,List.set_cons_succ,i64_w,i32_w]
           rfl
          refine pure_ (i:=14) (N:=some 45) (v:=?_) (a':=?_) #[true,true,true,true,true,true,true,true,true,true,true,true,true,true,true,false,false,false,false,false,false,false,false,false,false,false,false,false,false,false,false,false,false,false,false,false,false,false] rfl rfl (any_of HT_.out (by kernel_rfl)) (fun _ _ _ h=>h) (Or.inl ⟨by rfl,?_⟩) ?_ ?_
          rotate_left
          ·intro w'
           go_simp
           with_reducible rfl
          rotate_left
          ·simp only [Act.put,List.setIfInBounds_toArray,List.set_cons_zero,List.set_cons_succ,i64_w,i32_w]
           rfl
          refine pure_ (i:=15) (N:=some 46) (v:=?_) (a':=?_) #[true,true,true,true,true,true,true,true,true,true,true,true,true,true,true,true,false,false,false,false,false,false,false,false,false,false,false,false,false,false,false,false,false,false,false,false,false,false] rfl rfl (any_of HT_.out (by kernel_rfl)) (fun _ _ _ h=>h) (Or.inl ⟨by rfl,?_⟩) ?_ ?_
          rotate_left
          ·intro w'
           go_simp
           with_reducible rfl
          rotate_left
          ·simp only [Act.put,List.setIfInBounds_toArray,List.set_cons_zero,List.set_cons_succ,i64_w,i32_w]
           rfl
          refine pure_ (i:=16) (N:=some 47) (v:=?_) (a':=?_) #[true,true,true,true,true,true,true,true,true,true,true,true,true,true,true,true,true,false,false,false,false,false,false,false,false,false,false,false,false,false,false,false,false,false,false,false,false,false] rfl rfl (any_of HT_.out (by kernel_rfl)) (fun _ _ _ h=>h) (Or.inl ⟨by rfl,?_⟩) ?_ ?_
          rotate_left
          ·intro w'
           go_simp
           with_reducible rfl
          rotate_left
          ·simp only [Act.put,List.setIfInBounds_toArray,List.set_cons_zero,List.set_cons_succ,i64_w,i32_w]
           rfl
          refine pure_ (i:=18) (N:=some 49) (v:=?_) (a':=?_) #[true,true,true,true,true,true,true,true,true,true,true,true,true,true,true,true,true,false,true,false,false,false,false,false,false,false,false,false,false,false,false,false,false,false,false,false,false,false] rfl rfl (any_of HT_.out (by kernel_rfl)) (fun _ _ _ h=>h) (Or.inl ⟨by rfl,?_⟩) ?_ ?_
          rotate_left
          ·intro w'
           go_simp
           with_reducible rfl
          rotate_left
          ·simp only [Act.put,List.setIfInBounds_toArray,List.set_cons_zero,List.set_cons_succ,i64_w,i32_w]
           rfl
          refine pure_ (i:=22) (N:=some 53) (v:=?_) (a':=?_) #[true,true,true,true,true,true,true,true,true,true,true,true,true,true,true,true,true,false,true,false,false,false,true,false,false,false,false,false,false,false,false,false,false,false,false,false,false,false] rfl rfl (any_of HT_.out (by kernel_rfl)) (fun _ _ _ h=>h) (Or.inl ⟨by rfl,?_⟩) ?_ ?_
          rotate_left
          ·intro w'
           go_simp
           with_reducible rfl
          rotate_left
          ·simp only [Act.put,List.setIfInBounds_toArray,List.set_cons_zero,List.set_cons_succ,i64_w,i32_w]
           rfl
          refine take_ (i:=17) (N:=some 48) (v:=?_) (a':=?_) #[true,true,true,true,true,true,true,true,true,true,true,true,true,true,true,true,true,true,true,false,false,false,true,false,false,false,false,false,false,false,false,false,false,false,false,false,false,false] rfl rfl (take_ofW HT_.out HW_.out (by kernel_rfl)) (fun _ _ _ h=>h) (Or.inl ⟨by rfl,?_⟩) hHeld ?_ ?_
          rotate_left
          ·rintro w' ⟨s0,s1,s2,s3,s4,s5⟩
           go_simp
           with_reducible rfl
          rotate_left
          ·simp only [Act.put,List.setIfInBounds_toArray,List.set_cons_zero,List.set_cons_succ,i64_w,i32_w]
           rfl
          refine take_ (i:=19) (N:=some 50) (v:=?_) (a':=?_) #[true,true,true,true,true,true,true,true,true,true,true,true,true,true,true,true,true,true,true,true,false,false,true,false,false,false,false,false,false,false,false,false,false,false,false,false,false,false] rfl rfl (take_ofW HT_.out HW_.out (by kernel_rfl)) (fun _ _ _ h=>h) (Or.inl ⟨by rfl,?_⟩) hHeld ?_ ?_
          rotate_left
          ·rintro w' ⟨s0,s1,s2,s3,s4,s5⟩
           go_simp
           with_reducible rfl
          rotate_left
          ·simp only [Act.put,List.setIfInBounds_toArray,List.set_cons_zero,List.set_cons_succ,i64_w,i32_w]
           rfl
          refine pure_ (i:=20) (N:=some 51) (v:=?_) (a':=?_) #[true,true,true,true,true,true,true,true,true,true,true,true,true,true,true,true,true,true,true,true,true,false,true,false,false,false,false,false,false,false,false,false,false,false,false,false,false,false] rfl rfl (any_of HT_.out (by kernel_rfl)) (fun _ _ _ h=>h) (Or.inl ⟨by rfl,?_⟩) ?_ ?_
          rotate_left
          ·intro w'
           go_simp
           with_reducible rfl
          rotate_left
          ·simp only [Act.put,List.setIfInBounds_toArray,List.set_cons_zero,List.set_cons_succ,i64_w,i32_w]
           rfl
          refine pure_ (i:=21) (N:=some 52) (v:=?_) (a':=?_) #[true,true,true,true,true,true,true,true,true,true,true,true,true,true,true,true,true,true,true,true,true,true,true,false,false,false,false,false,false,false,false,false,false,false,false,false,false,false] rfl rfl (any_of HT_.out (by kernel_rfl)) (fun _ _ _ h=>h) (Or.inl ⟨by rfl,?_⟩) ?_ ?_
          rotate_left
          ·intro w'
           go_simp
           with_reducible rfl
          rotate_left
          ·simp only [Act.put,List.setIfInBounds_toArray,List.set_cons_zero,List.set_cons_succ,i64_w,i32_w]
           rfl
          refine take_ (i:=23) (N:=some 54) (v:=?_) (a':=?_) #[true,true,true,true,true,true,true,true,true,true,true,true,true,true,true,true,true,true,true,true,true,true,true,true,false,false,false,false,false,false,false,false,false,false,false,false,false,false] rfl rfl (take_ofW HT_.out HW_.out (by kernel_rfl)) (fun _ _ _ h=>h) (Or.inl ⟨by rfl,?_⟩) hHeld ?_ ?_
          rotate_left
          ·rintro w' ⟨s0,s1,s2,s3,s4,s5⟩
           go_simp
           with_reducible rfl
          rotate_left
          ·simp only [Act.put,List.setIfInBounds_toArray,List.set_cons_zero,List.set_cons_succ,i64_w,i32_w]
           rfl
          refine one_ (i:=24) (N:=some 55) #[true,true,true,true,true,true,true,true,true,true,true,true,true,true,true,true,true,true,true,true,true,true,true,true,true,false,false,false,false,false,false,false,false,false,false,false,false,false] rfl rfl (one_of HT_.out (by kernel_rfl)) (by decide) (fun K hK=>?_)
          refine goes_ Try.func15 (by kernel_rfl) rfl #[.slice Ao43 y519.length co43, .slice Ao26 t489.length co26] (by rfl) rfl rfl (by (try simp only [List.map_toArray,List.map_cons,List.map_nil]);first|done|rfl|(simp only [List.length_drop,List.length_take];rfl)) ?_
          with_reducible refine (laws_lpRules.calls k _ _ y519 _ _ t489 true _ ?side1 ?side2 ?side3 ?side4 A15.out).mono ?_
          (case side1=>repeat (first|exact (Kd.V_reads' HO523.out).2.2|(with_reducible refine Kd.C_alloc ?_ _)|(with_reducible refine Kd.C_drewN ?_ _)|(with_reducible refine Kd.C_drew ?_)))
          (case side2=>exact (Kd.V_reads' HO523.out).2.1)
          (case side3=>repeat (first|exact (Kd.R_reads' HO491.out).2.2|(with_reducible refine Kd.C_alloc ?_ _)|(with_reducible refine Kd.C_drewN ?_ _)|(with_reducible refine Kd.C_drew ?_)))
          (case side4=>exact (Kd.R_reads' HO491.out).2.1)
          rintro e w' ⟨rfl,⟨nd,rfl⟩⟩
          refine ⟨_,rfl,?_⟩
          have q47:((t489.length:Int):Int) ≤ ((t514.length:Int):Int):=of_decide_eq_true (by first|(with_reducible assumption)|assumption)
          obtain ⟨i047,hi047,_,hsz47,_⟩:=info_parts info57
          have hroom47:t514.length ≤ co43:=(Kd.R_reads' HO516.out).2.1
          have hC47:Kd.F k57 _ _ Ao43 t514.length t514:=(Kd.V_at (base:=w.heap.size) (Kd.R_V (Kd.R_types (Kd.R_types (Kd.R_apart' (Kd.R_apart' (Kd.R_apart' (Kd.R_apart' (Kd.R_apart' (HO516.out) (Kd.N_typed HO485.out) (by decide)) (Kd.R_typed HO488.out) (by decide)) (Kd.R_typed HO496.out) (by decide)) (Kd.N_typed HO510.out) (by decide)) (Kd.R_typed HO513.out) (by decide)) BK493.out (by decide)) BK518.out (by decide)))).2.2
          have q047:(0:Int) ≤ ((t489.length:Int):Int):=of_decide_eq_true (by first|(with_reducible assumption)|assumption)
          have hcut47:=cut_from (P:=Try.prog) 28 57 .i64 Try.underlying28 hi047 2 hsz47 Ao43 t514.length co43 (t489.length:Int) q047 q47
          have hr47:=Kd.F_cut (m:=((t489.length:Int):Int).toNat) (c:=co43) hC47 (by omega) hroom47
          obtain ⟨A47,hA47⟩:∃ A1,A1 = (if co43 = ((t489.length:Int):Int).toNat then Ao43 else (Ao43:Option Addr).map (·.add (((t489.length:Int):Int).toNat * 2))):=⟨_,rfl⟩
          obtain ⟨c47,hc47⟩:∃ c1,c1 = co43 - ((t489.length:Int):Int).toNat:=⟨_,rfl⟩
          have hy47:y525.length = t514.length - ((t489.length:Int):Int).toNat:=(by rw [Ny525.out,List.length_drop] <;> omega)
          rw [show (t514).drop ((t489.length:Int):Int).toNat = y525 from Ny525.out.symm] at hr47
          replace hr47:Kd.F k57 _ _ A47 y525.length y525:=(by rw [hA47];exact hr47)
          rw [← hy47,← hA47,← hc47] at hcut47
          have HO529:=Aside0.mk (show Kd.V k57 57 _ w.heap.size _ (.slice A47 y525.length c47) y525 from Kd.V_mk (by rw [hy47,hc47];exact Nat.sub_le_sub_right hroom47 _) hr47)
          have HC529:=Aside0.mk (show y525.length ≤ c47 from by rw [hy47,hc47];exact Nat.sub_le_sub_right hroom47 _)
          clear hr47 hC47 hroom47 hi047 hsz47 hc47
          have KY47:=Aside0.mk hy47
          have KA47:=Aside0.mk hA47
          clear hy47 hA47
          replace q47:=eq_true q47
          refine hK.out _ _ ⟨(blk_cell BK518.out 0).trans rfl,(blk_cell BK518.out 1).trans rfl,(blk_cell BK518.out 2).trans rfl,(blk_cell BK493.out 0).trans rfl,(blk_cell BK493.out 1).trans rfl,(blk_cell BK493.out 2).trans rfl⟩ (fun hHeld=>?_)
          clear hK K
          refine norm_ (a':=?_) ?_ ?_
          rotate_left
          ·show Act.put _ (some 55) _ = _
           simp only [Act.put,List.setIfInBounds_toArray,List.set_cons_zero,List.set_cons_succ,i64_w,i32_w]
           rfl
          refine pure_ (i:=25) (N:=some 56) (v:=?_) (a':=?_) #[true,true,true,true,true,true,true,true,true,true,true,true,true,true,true,true,true,true,true,true,true,true,true,true,true,true,false,false,false,false,false,false,false,false,false,false,false,false] rfl rfl (any_of HT_.out (by kernel_rfl)) (fun _ _ _ h=>h) (Or.inl ⟨by rfl,?_⟩) ?_ ?_
          rotate_left
          ·intro w'
           go_simp
           with_reducible rfl
          rotate_left
          ·simp only [Act.put,List.setIfInBounds_toArray,List.set_cons_zero,List.set_cons_succ,i64_w,i32_w]
           rfl
          refine pure_ (i:=26) (N:=some 57) (v:=?_) (a':=?_) #[true,true,true,true,true,true,true,true,true,true,true,true,true,true,true,true,true,true,true,true,true,true,true,true,true,true,true,false,false,false,false,false,false,false,false,false,false,false] rfl rfl (any_of HT_.out (by kernel_rfl)) (fun _ _ _ h=>h) (Or.inl ⟨by rfl,?_⟩) ?_ ?_
          rotate_left
          ·intro w'
           go_simp
           with_reducible rfl
          rotate_left
          ·simp only [Act.put,List.setIfInBounds_toArray,List.set_cons_zero,List.set_cons_succ,i64_w,i32_w]
           rfl
          refine pure_ (i:=27) (N:=some 58) (v:=?_) (a':=?_) #[true,true,true,true,true,true,true,true,true,true,true,true,true,true,true,true,true,true,true,true,true,true,true,true,true,true,true,true,false,false,false,false,false,false,false,false,false,false] rfl rfl (any_of HT_.out (by kernel_rfl)) (fun _ _ _ h=>h) (Or.inl ⟨by rfl,?_⟩) ?_ ?_
          rotate_left
          ·intro w'
           go_simp
           with_reducible rfl
          rotate_left
          ·simp only [Act.put,List.setIfInBounds_toArray,List.set_cons_zero,List.set_cons_succ,i64_w,i32_w]
           rfl
          refine pure_ (i:=29) (N:=some 60) (v:=?_) (a':=?_) #[true,true,true,true,true,true,true,true,true,true,true,true,true,true,true,true,true,true,true,true,true,true,true,true,true,true,true,true,false,true,false,false,false,false,false,false,false,false] rfl rfl (any_of HT_.out (by kernel_rfl)) (fun _ _ _ h=>h) (Or.inl ⟨by rfl,?_⟩) ?_ ?_
          rotate_left
          ·intro w'
           go_simp
           with_reducible rfl
          rotate_left
          ·simp only [Act.put,List.setIfInBounds_toArray,List.set_cons_zero,List.set_cons_succ,i64_w,i32_w]
           rfl
          refine pure_ (i:=33) (N:=some 64) (v:=?_) (a':=?_) #[true,true,true,true,true,true,true,true,true,true,true,true,true,true,true,true,true,true,true,true,true,true,true,true,true,true,true,true,false,true,false,false,false,true,false,false,false,false] rfl rfl (any_of HT_.out (by kernel_rfl)) (fun _ _ _ h=>h) (Or.inl ⟨by rfl,?_⟩) ?_ ?_
          rotate_left
          ·intro w'
           go_simp
           with_reducible rfl
          rotate_left
          ·simp only [Act.put,List.setIfInBounds_toArray,List.set_cons_zero,List.set_cons_succ,i64_w,i32_w]
           rfl
          refine take_ (i:=28) (N:=some 59) (v:=?_) (a':=?_) #[true,true,true,true,true,true,true,true,true,true,true,true,true,true,true,true,true,true,true,true,true,true,true,true,true,true,true,true,true,true,false,false,false,true,false,false,false,false] rfl rfl (take_ofW HT_.out HW_.out (by kernel_rfl)) (fun _ _ _ h=>h) (Or.inl ⟨by rfl,?_⟩) hHeld ?_ ?_
          rotate_left
          ·rintro w' ⟨s0,s1,s2,s3,s4,s5⟩
           go_simp
           with_reducible rfl
          rotate_left
          ·simp only [Act.put,List.setIfInBounds_toArray,List.set_cons_zero,List.set_cons_succ,i64_w,i32_w]
           rfl
          refine take_ (i:=30) (N:=some 61) (v:=?_) (a':=?_) #[true,true,true,true,true,true,true,true,true,true,true,true,true,true,true,true,true,true,true,true,true,true,true,true,true,true,true,true,true,true,true,false,false,true,false,false,false,false] rfl rfl (take_ofW HT_.out HW_.out (by kernel_rfl)) (fun _ _ _ h=>h) (Or.inl ⟨by rfl,?_⟩) hHeld ?_ ?_
          rotate_left
          ·rintro w' ⟨s0,s1,s2,s3,s4,s5⟩
           go_simp
           with_reducible rfl
          rotate_left
          ·simp only [Act.put,List.setIfInBounds_toArray,List.set_cons_zero,List.set_cons_succ,i64_w,i32_w]
           rfl
          refine pure_ (i:=31) (N:=some 62) (v:=?_) (a':=?_) #[true,true,true,true,true,true,true,true,true,true,true,true,true,true,true,true,true,true,true,true,true,true,true,true,true,true,true,true,true,true,true,true,false,true,false,false,false,false] rfl rfl (any_of HT_.out (by kernel_rfl)) (fun _ _ _ h=>h) (Or.inl ⟨by rfl,?_⟩) ?_ ?_
          rotate_left
          ·intro w'
           go_simp
           with_reducible rfl
          rotate_left
          ·simp only [Act.put,List.setIfInBounds_toArray,List.set_cons_zero,List.set_cons_succ,i64_w,i32_w]
           rfl
          refine pure_ (i:=32) (N:=some 63) (v:=?_) (a':=?_) #[true,true,true,true,true,true,true,true,true,true,true,true,true,true,true,true,true,true,true,true,true,true,true,true,true,true,true,true,true,true,true,true,true,true,false,false,false,false] rfl rfl (any_of HT_.out (by kernel_rfl)) (fun _ _ _ h=>h) (Or.inl ⟨by rfl,?_⟩) ?_ ?_
          rotate_left
          ·intro w'
           go_simp
           with_reducible rfl
          rotate_left
          ·simp only [Act.put,List.setIfInBounds_toArray,List.set_cons_zero,List.set_cons_succ,i64_w,i32_w]
           rfl
          refine take_ (i:=34) (N:=some 65) (v:=?_) (a':=?_) #[true,true,true,true,true,true,true,true,true,true,true,true,true,true,true,true,true,true,true,true,true,true,true,true,true,true,true,true,true,true,true,true,true,true,true,false,false,false] rfl rfl (take_ofW HT_.out HW_.out (by kernel_rfl)) (fun _ _ _ h=>h) (Or.inl ⟨by rfl,?_⟩) hHeld ?_ ?_
          rotate_left
          ·rintro w' ⟨s0,s1,s2,s3,s4,s5⟩
           go_simp
           with_reducible rfl
          rotate_left
          ·simp only [Act.put,List.setIfInBounds_toArray,List.set_cons_zero,List.set_cons_succ,i64_w,i32_w]
           rfl
          refine one_ (i:=35) (N:=some 66) #[true,true,true,true,true,true,true,true,true,true,true,true,true,true,true,true,true,true,true,true,true,true,true,true,true,true,true,true,true,true,true,true,true,true,true,true,false,false] rfl rfl (one_of HT_.out (by kernel_rfl)) (by decide) (fun K hK=>?_)
          refine goes_ Try.func15 (by kernel_rfl) rfl #[.slice A47 y525.length c47, .slice Ao26 t489.length co26] (by rfl) rfl rfl (by (try simp only [List.map_toArray,List.map_cons,List.map_nil]);first|done|rfl|(simp only [List.length_drop,List.length_take];rfl)) ?_
          with_reducible refine (laws_lpRules.calls k _ _ y525 _ _ t489 t530 _ ?side1 ?side2 ?side3 ?side4 A19.out).mono ?_
          (case side1=>repeat (first|exact (Kd.V_reads' HO529.out).2.2|(with_reducible refine Kd.C_alloc ?_ _)|(with_reducible refine Kd.C_drewN ?_ _)|(with_reducible refine Kd.C_drew ?_)))
          (case side2=>exact (Kd.V_reads' HO529.out).2.1)
          (case side3=>repeat (first|exact (Kd.R_reads' HO491.out).2.2|(with_reducible refine Kd.C_alloc ?_ _)|(with_reducible refine Kd.C_drewN ?_ _)|(with_reducible refine Kd.C_drew ?_)))
          (case side4=>exact (Kd.R_reads' HO491.out).2.1)
          rintro e w' ⟨rfl,⟨nd,rfl⟩⟩
          refine ⟨_,rfl,?_⟩
          refine hK.out _ _ ⟨(blk_cell BK518.out 0).trans rfl,(blk_cell BK518.out 1).trans rfl,(blk_cell BK518.out 2).trans rfl,(blk_cell BK493.out 0).trans rfl,(blk_cell BK493.out 1).trans rfl,(blk_cell BK493.out 2).trans rfl⟩ (fun hHeld=>?_)
          clear hK K
          refine norm_ (a':=?_) ?_ ?_
          rotate_left
          ·show Act.put _ (some 66) _ = _
           simp only [Act.put,List.setIfInBounds_toArray,List.set_cons_zero,List.set_cons_succ,i64_w,i32_w]
           rfl
          refine pure_ (i:=36) (N:=some 67) (v:=?_) (a':=?_) #[true,true,true,true,true,true,true,true,true,true,true,true,true,true,true,true,true,true,true,true,true,true,true,true,true,true,true,true,true,true,true,true,true,true,true,true,true,false] rfl rfl (any_of HT_.out (by kernel_rfl)) (fun _ _ _ h=>h) (Or.inl ⟨by rfl,?_⟩) ?_ ?_
          rotate_left
          ·intro w'
           go_simp
           with_reducible rfl
          rotate_left
          ·simp only [Act.put,List.setIfInBounds_toArray,List.set_cons_zero,List.set_cons_succ,i64_w,i32_w]
           rfl
          refine pure_ (i:=37) (N:=some 2) (v:=?_) (a':=?_) #[true,true,true,true,true,true,true,true,true,true,true,true,true,true,true,true,true,true,true,true,true,true,true,true,true,true,true,true,true,true,true,true,true,true,true,true,true,true] rfl rfl (any_of HT_.out (by kernel_rfl)) (fun _ _ _ h=>h) (Or.inl ⟨by rfl,?_⟩) ?_ ?_
          rotate_left
          ·intro w'
           go_simp
           with_reducible rfl
          rotate_left
          ·simp only [Act.put,List.setIfInBounds_toArray,List.set_cons_zero,List.set_cons_succ,i64_w,i32_w]
           rfl
          refine done_ (done_of HT_.out (by kernel_rfl)) ?_
          try go_wp2
          go_ret
          exact ⟨by first|rfl|(simp <;> rfl)|(simp [*] <;> rfl),by repeat (first|(with_reducible first|exact HB.out|apply below_alloc|apply pw_below_drewN|apply below_drew1|refine below_set ?_ GE493.out|refine below_set ?_ GE518.out)|exact HB.out)⟩
         ·replace c16:=Bool.eq_false_iff.mpr c16
          subst c16
          have H1:(none) = some r:=by rw [if_neg (show ¬ (false = true) by decide)] at H;exact H
          clear H
          have H:=H1
          clear H1
          exact absurd H (by simp)
        ·rw [if_neg c14] at H
         exact absurd H (by simp)
       ·rw [if_neg c13] at H
        exact absurd H (by simp)
      ·rw [if_neg c12] at H
       exact absurd H (by simp)
     ·rw [if_neg c11] at H
      exact absurd H (by simp)
    ·rw [if_neg c9] at H
     exact absurd H (by simp)
   ·rw [if_neg c8] at H
    exact absurd H (by simp)
  ·replace c7:=Bool.eq_false_iff.mpr c7
   subst c7
   have H1:(none) = some r:=by rw [if_neg (show ¬ (false = true) by decide)] at H;exact H
   clear H
   have H:=H1
   clear H1
   exact absurd H (by simp)

/-- THE ONE PURE STATEMENT of laws_FnForTwo: yours. -/
def laws_FnForTwo.Pure:Prop:=∀ (l0:List Int),l0.length ≤ maxLen → l0.length * 1 ≤ 140737488351232 → (∀ x ∈ l0,(Lit.int .u8 x).wf = true) → ∃ k,laws_FnForTwo.f k l0 = some true
end Go.Proofs.Ytheakfegchndcaa.P
