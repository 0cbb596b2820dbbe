-- Written by a program of this session (patch_print.py over the kit's print; given texts in wip/given).
-- Cut down by a program of this session (wip/tools/prune.py) to what its claim can name.
import Derived.Test.YtbnnamjaljohiaaDoorSq
import Derived.Test.YtbnnamjaljohiaaDoorPx0
import Derived.Test.YtbnnamjaljohiaaDoorPx2
import Derived.Test.YtbnnamjaljohiaaDoorPx4
import Derived.Test.YtbnnamjaljohiaaDoorPx5
import Derived.Test.YtbnnamjaljohiaaDoorPx7
namespace Go.Proofs.YtbnnamjaljohiaaDoor.P
open Go.RowKit Go.Proofs.YtbnnamjaljohiaaDoorW.PrintWords Go.Proofs.YtbnnamjaljohiaaDoorW.PrintLast Go.Proofs.YtbnnamjaljohiaaDoorW.PrintMore
attribute [local go_sem] max2_int min2_int max_two min_two max_three min_three max_four min_four   -- for this text's walks alone
set_option linter.unusedVariables false
set_option linter.unusedSimpArgs false
set_option maxHeartbeats 8000000
set_option maxRecDepth 100000

def laws_FnJoinBeside.j0:Nat → Bool → Bool → Bool → ByteArray → List ByteArray → Bool → ByteArray → ByteArray → List ByteArray → Bool → ByteArray → ByteArray → List ByteArray → Bool → ByteArray → Option (Bool)
 | 0,_,_,_,_,_,_,_,_,_,_,_,_,_,_,_=>none
 | k + 1,x6,x8,x53,x553000,x553001,x553002,x553003,x561000,x561001,x561002,x561003,x569000,x569001,x569002,x569003=>if x53 = true then (if (x8 == x6) = true then ((laws_lpAddr.f k x569000 x569001 x569002 x569003 x561000 x561001 x561002 x561003).bind fun t571=>(some t571)) else (none)) else ((impl_AddrJoin.f k x553000 x553001 x553002 x553003 (⟨#[113]⟩:ByteArray)).bind fun bt572=>((impl_AddrJoin.f k x553000 x553001 x553002 x553003 (⟨#[46,47,119,47,46,46,47,113]⟩:ByteArray)).bind fun bt580=>((some (([]:List ByteArray):List ByteArray)).bind fun y588=>(if 0 ≤ (wrap64 ((x553001.length:Int) - 1)) then (if (wrap64 ((x553001.length:Int) - 1)) ≤ (x553001.length:Int) then ((some (x553001.take ((wrap64 ((x553001.length:Int) - 1)):Int).toNat:List ByteArray)).bind fun y591=>(if y588.length + y591.length < 8796093022208 then ((some (y588 ++ y591:List ByteArray)).bind fun y595=>(if y595.length < 8796093022208 then (if (bt572.2.2.2.2 == bt580.2.2.2.2) = true then ((laws_lpAddr.f k bt572.1 bt572.2.1 bt572.2.2.1 bt572.2.2.2.1 bt580.1 bt580.2.1 bt580.2.2.1 bt580.2.2.2.1).bind fun t601=>(if t601 = true then (if bt572.2.2.2.2 = true then ((laws_lpAddr.f k bt572.1 bt572.2.1 bt572.2.2.1 bt572.2.2.2.1 x553000 (y595 ++ [(⟨#[113]⟩:ByteArray)]) false (⟨#[]⟩:ByteArray)).bind fun t602=>(some t602)) else (some true)) else (none))) else (none)) else (none))) else (none))) else (none)) else (none)))))
def laws_FnJoinBeside.f (k:Nat) (l0:List Int):Option (Bool):=if (l0.length:Int) > 1048576 then (some true) else ((spec_DrawAddrJoin.f k l0).bind fun bt545=>((spec_AddrJoin.f k bt545.1 bt545.2.1 bt545.2.2.1 bt545.2.2.2.1 bt545.2.2.2.2).bind fun bt553=>((impl_AddrJoin.f k bt545.1 bt545.2.1 bt545.2.2.1 bt545.2.2.2.1 bt545.2.2.2.2).bind fun bt561=>(if (bt561.2.2.2.2 != bt553.2.2.2.2) = true then (none) else ((laws_lpAddr.f k bt561.1 bt561.2.1 bt561.2.2.1 bt561.2.2.2.1 bt553.1 bt553.2.1 bt553.2.2.1 bt553.2.2.2.1).bind fun t569=>(if t569 = true then ((spec_AddrOk.f k bt545.1 bt545.2.1 bt545.2.2.1 bt545.2.2.2.1).bind fun t570=>(if t570 = true then (laws_FnJoinBeside.j0 k bt553.2.2.2.2 bt561.2.2.2.2 ((bt545.2.1.length:Int) == 0) bt545.1 bt545.2.1 bt545.2.2.1 bt545.2.2.2.1 bt553.1 bt553.2.1 bt553.2.2.1 bt553.2.2.2.1 bt561.1 bt561.2.1 bt561.2.2.1 bt561.2.2.2.1) else (laws_FnJoinBeside.j0 k bt553.2.2.2.2 bt561.2.2.2.2 true bt545.1 bt545.2.1 bt545.2.2.1 bt545.2.2.2.1 bt553.1 bt553.2.1 bt553.2.2.1 bt553.2.2.2.1 bt561.1 bt561.2.1 bt561.2.2.1 bt561.2.2.2.1))) else (none)))))))
theorem laws_FnJoinBeside.mono_l:∀ k,(∀ y0 y1 y2 y3 y4 y5 y6 y7 y8 y9 y10 y11 y12 y13 y14,LeO (laws_FnJoinBeside.j0 k y0 y1 y2 y3 y4 y5 y6 y7 y8 y9 y10 y11 y12 y13 y14) (laws_FnJoinBeside.j0 (k + 1) y0 y1 y2 y3 y4 y5 y6 y7 y8 y9 y10 y11 y12 y13 y14))
 | 0=>fun _ _ _ _ _ _ _ _ _ _ _ _ _ _ _ r h=>by simp [laws_FnJoinBeside.j0] at h
 | k + 1=>by
  have ih0:=laws_FnJoinBeside.mono_l k
  ·intro y0 y1 y2 y3 y4 y5 y6 y7 y8 y9 y10 y11 y12 y13 y14
   unfold laws_FnJoinBeside.j0
   repeat' first
   | (with_reducible apply ih0)
   | (with_reducible apply impl_AddrJoin.mono)
   | (with_reducible apply laws_lpAddr.mono)
   | (with_reducible apply spec_AddrJoin.mono)
   | (with_reducible apply spec_AddrOk.mono)
   | (with_reducible apply spec_DrawAddrJoin.mono)
   | (with_reducible exact LeO.refl _)
   | (with_reducible exact LeO.none _)
   | (with_reducible refine LeO.ite ?_ ?_)
   | (with_reducible refine LeO.bind ?_ (fun _=>?_))









theorem laws_FnJoinBeside.mono:∀ a0 k,LeO (laws_FnJoinBeside.f k a0) (laws_FnJoinBeside.f (k + 1) a0):=by
 intro a0 k
 have ih0:=laws_FnJoinBeside.mono_l k
 unfold laws_FnJoinBeside.f
 repeat' first
   | (with_reducible apply ih0)
   | (with_reducible apply impl_AddrJoin.mono)
   | (with_reducible apply laws_lpAddr.mono)
   | (with_reducible apply spec_AddrJoin.mono)
   | (with_reducible apply spec_AddrOk.mono)
   | (with_reducible apply spec_DrawAddrJoin.mono)
   | (with_reducible exact LeO.refl _)
   | (with_reducible exact LeO.none _)
   | (with_reducible refine LeO.ite ?_ ?_)
   | (with_reducible refine LeO.bind ?_ (fun _=>?_))









theorem laws_FnJoinBeside.calls (k:Nat) (A0:Option Addr) (c0:Nat) (l0:List Int) (r:Bool) (w:World) (hr0:Kd.C (Kd.int .u8) w A0 l0.length l0) (hc0:l0.length ≤ c0) (h:laws_FnJoinBeside.f k l0 = some r) :
  Calls Tryd.prog 8 #[.slice A0 l0.length c0] w fun e w'=>e = .returned (.bool r) ∧ Below w.heap.size w w':=by
 have hu25:=Tryd.underlying25
 have HR0:=Am hr0
 have HC0:=Am hc0
 clear hr0 hc0
 have HB:=Am (Below.refl w.heap.size w)
 have H:(if (l0.length:Int) > 1048576 then (some true) else ((spec_DrawAddrJoin.f k l0).bind fun bt545=>((spec_AddrJoin.f k bt545.1 bt545.2.1 bt545.2.2.1 bt545.2.2.2.1 bt545.2.2.2.2).bind fun bt553=>((impl_AddrJoin.f k bt545.1 bt545.2.1 bt545.2.2.1 bt545.2.2.2.1 bt545.2.2.2.2).bind fun bt561=>(if (bt561.2.2.2.2 != bt553.2.2.2.2) = true then (none) else ((laws_lpAddr.f k bt561.1 bt561.2.1 bt561.2.2.1 bt561.2.2.2.1 bt553.1 bt553.2.1 bt553.2.2.1 bt553.2.2.2.1).bind fun t569=>(if t569 = true then ((spec_AddrOk.f k bt545.1 bt545.2.1 bt545.2.2.1 bt545.2.2.2.1).bind fun t570=>(if t570 = true then (laws_FnJoinBeside.j0 k bt553.2.2.2.2 bt561.2.2.2.2 ((bt545.2.1.length:Int) == 0) bt545.1 bt545.2.1 bt545.2.2.1 bt545.2.2.2.1 bt553.1 bt553.2.1 bt553.2.2.1 bt553.2.2.2.1 bt561.1 bt561.2.1 bt561.2.2.1 bt561.2.2.2.1) else (laws_FnJoinBeside.j0 k bt553.2.2.2.2 bt561.2.2.2.2 true bt545.1 bt545.2.1 bt545.2.2.1 bt545.2.2.2.1 bt553.1 bt553.2.1 bt553.2.2.1 bt553.2.2.2.1 bt561.1 bt561.2.1 bt561.2.2.1 bt561.2.2.2.1))) else (none)))))))) = some r:=h
 clear h
 by_cases c2:(l0.length:Int) > 1048576
 ·rw [if_pos c2] at H
  have c2b0:decide (1048576 < (l0.length:Int)) = true:=decide_eq_true c2
  have c2b1:decide (1048576 < l0.length) = true:=decide_eq_true (by omega)
  clear c2
  obtain rfl:=Option.some.inj H
  go_enter Tryd.func8,Tryd.ntmps8
  go_wp2
  go_ret
  exact ⟨by first|rfl|(simp <;> rfl)|(simp [*] <;> rfl),by repeat (first|(with_reducible first|exact HB.out|apply bA|apply bN|apply bD)|exact HB.out)⟩
 ·rw [if_neg c2] at H
  have c2b0:decide (1048576 < (l0.length:Int)) = false:=decide_eq_false c2
  have c2b1:decide (1048576 < l0.length) = false:=decide_eq_false (by omega)
  clear c2
  replace H:=bI H
  obtain ⟨⟨t545,t546,t549,t550,t551⟩,A30,H⟩:=H
  replace H:((spec_AddrJoin.f k t545 t546 t549 t550 t551).bind fun bt553=>((impl_AddrJoin.f k t545 t546 t549 t550 t551).bind fun bt561=>(if (bt561.2.2.2.2 != bt553.2.2.2.2) = true then (none) else ((laws_lpAddr.f k bt561.1 bt561.2.1 bt561.2.2.1 bt561.2.2.2.1 bt553.1 bt553.2.1 bt553.2.2.1 bt553.2.2.2.1).bind fun t569=>(if t569 = true then ((spec_AddrOk.f k t545 t546 t549 t550).bind fun t570=>(if t570 = true then (laws_FnJoinBeside.j0 k bt553.2.2.2.2 bt561.2.2.2.2 ((t546.length:Int) == 0) t545 t546 t549 t550 bt553.1 bt553.2.1 bt553.2.2.1 bt553.2.2.2.1 bt561.1 bt561.2.1 bt561.2.2.1 bt561.2.2.2.1) else (laws_FnJoinBeside.j0 k bt553.2.2.2.2 bt561.2.2.2.2 true t545 t546 t549 t550 bt553.1 bt553.2.1 bt553.2.2.1 bt553.2.2.2.1 bt561.1 bt561.2.1 bt561.2.2.1 bt561.2.2.2.1))) else (none)))))) = some r:=H
  have A3:=Am A30
  clear A30
  replace H:=bI H
  obtain ⟨⟨t553,t554,t557,t558,t559⟩,A40,H⟩:=H
  replace H:((impl_AddrJoin.f k t545 t546 t549 t550 t551).bind fun bt561=>(if (bt561.2.2.2.2 != t559) = true then (none) else ((laws_lpAddr.f k bt561.1 bt561.2.1 bt561.2.2.1 bt561.2.2.2.1 t553 t554 t557 t558).bind fun t569=>(if t569 = true then ((spec_AddrOk.f k t545 t546 t549 t550).bind fun t570=>(if t570 = true then (laws_FnJoinBeside.j0 k t559 bt561.2.2.2.2 ((t546.length:Int) == 0) t545 t546 t549 t550 t553 t554 t557 t558 bt561.1 bt561.2.1 bt561.2.2.1 bt561.2.2.2.1) else (laws_FnJoinBeside.j0 k t559 bt561.2.2.2.2 true t545 t546 t549 t550 t553 t554 t557 t558 bt561.1 bt561.2.1 bt561.2.2.1 bt561.2.2.2.1))) else (none))))) = some r:=H
  have A4:=Am A40
  clear A40
  replace H:=bI H
  obtain ⟨⟨t561,t562,t565,t566,t567⟩,A50,H⟩:=H
  replace H:(if (t567 != t559) = true then (none) else ((laws_lpAddr.f k t561 t562 t565 t566 t553 t554 t557 t558).bind fun t569=>(if t569 = true then ((spec_AddrOk.f k t545 t546 t549 t550).bind fun t570=>(if t570 = true then (laws_FnJoinBeside.j0 k t559 t567 ((t546.length:Int) == 0) t545 t546 t549 t550 t553 t554 t557 t558 t561 t562 t565 t566) else (laws_FnJoinBeside.j0 k t559 t567 true t545 t546 t549 t550 t553 t554 t557 t558 t561 t562 t565 t566))) else (none)))) = some r:=H
  have A5:=Am A50
  clear A50
  have HC6:=Am H
  clear H
  go_enter Tryd.func8,Tryd.ntmps8
  go_upto_region 6 with (first|((with_reducible refine gate_callee (f:=11) rfl ?_);refine goesL_ (some 19) rfl rfl Tryd.func11 (by kernel_rfl) rfl #[.slice A0 l0.length c0] rfl (aE1 rfl) ?_;(with_reducible refine (spec_DrawAddrJoin.calls k _ _ l0 t545 t546 t549 t550 t551 _ ?side1 ?side2 A3.out).mono ?_);(case side1=>repeat (first|exact HR0.out|(with_reducible refine bC ?_)));(case side2=>exact HC0.out);rintro e w7 ⟨v547,rfl,ho0,hb⟩;refine ⟨_,rfl,?_⟩;have n0_:=Am (Kd.R_lower ho0 (bU (by repeat (first|(with_reducible first|exact HB.out|apply bA|apply bN|apply bD)|exact HB.out))));have n1_:=Am (bT (by repeat (first|(with_reducible first|exact HB.out|apply bA|apply bN|apply bD)|exact HB.out)) hb);clear HB;have HO548:=n0_;have HB:=n1_;clear n0_ n1_;(try clear hb);(try clear ho0))|((with_reducible refine gate_dst (N:=3) rfl ?_);(try (refine gate_guard (by rfl) ?_;dsimp only));refine box_event ?hg (N:=3) ?hd (cs:=#[.string (⟨#[]⟩:ByteArray), .slice none 0 0, .bool false, .string (⟨#[]⟩:ByteArray)]) (t:=25) ?hr ?_;(case hd=>rfl);(case hg=>rfl);(case hr=>(go_simp <;> rfl));intro gb552 hg w8 hbox hb;have n0_:=bH HO548 hb;have n1_:=Am (bT (by repeat (first|(with_reducible first|exact HB.out|apply bA|apply bN|apply bD)|exact HB.out)) hb);have n2_:=Am (hbox);have n3_:=Am ((by rw [hg];exact (bU (by repeat (first|(with_reducible first|exact HB.out|apply bA|apply bN|apply bD)|exact HB.out))):w.heap.size ≤ gb552));have n4_:=n3_;clear HO548 HB;have HO548:=n0_;have HB:=n1_;have BK552:=n2_;have GW552:=n3_;have GE552:=n4_;clear n0_ n1_ n2_ n3_ n4_ hb hbox hg;obtain ⟨hcz9_0,hcz9_1,hcz9_2,hcz9_3,hfz9_0,hfz9_1,hfz9_2,hfz9_3⟩:=bX BK552.out;obtain ⟨Ao10,co10,eo10⟩:=Kd.R_slice HO548.out;subst eo10)|((with_reducible refine gate_callee (f:=12) rfl ?_);refine goesL_ (some 25) rfl rfl Tryd.func12 (by kernel_rfl) rfl #[.agg #[.string t545, .slice Ao10 t546.length co10, .bool t549, .string t550], .string t551] rfl (aE2 rfl rfl) ?_;(with_reducible refine (spec_AddrJoin.calls k t545 _ _ t546 t549 t550 t551 t553 t554 t557 t558 t559 _ ?side1 ?side2 A4.out).mono ?_);(case side1=>refine (Kd.R_reads' (e:=9) (base:=w.heap.size) (ok:=fun k_=>True) (n:=t546.length) (c:=co10) ?_).2.2;exact (by (with_reducible repeat (first|apply rA|apply rN|apply rD));exact (bQ HO548.out BK552.out (by decide) _ _ _ _)));(case side2=>exact (Kd.R_reads' HO548.out).2.1);rintro e w11 ⟨v555,rfl,ho0,hb⟩;refine ⟨_,rfl,?_⟩;have n0_:=Am (Kd.R_elder' (by (with_reducible repeat (first|apply rA|apply rN|apply rD));exact (bQ HO548.out BK552.out (by decide) _ _ _ _)) (Kd.R_base ho0) hb);have n1_:=Am (Kd.R_lower (Kd.R_new' ho0 (Kd.R_lt (by (with_reducible repeat (first|apply rA|apply rN|apply rD));exact (bQ HO548.out BK552.out (by decide) _ _ _ _)))) (bU (by repeat (first|(with_reducible first|exact HB.out|apply bA|apply bN|apply bD|refine bS ?_ GE552.out)|exact HB.out))));have n2_:=Am (blk_below (g:=gb552) (o:=.cells #[.string t545, .slice Ao10 t546.length co10, .bool t549, .string t550] 25 (0,0)) (by refine bB ?_;apply bP;refine bB ?_;exact BK552.out) hb);have n3_:=Am (bT (by repeat (first|(with_reducible first|exact HB.out|apply bA|apply bN|apply bD|refine bS ?_ GE552.out)|exact HB.out)) hb);clear HO548 BK552 HB;have HO548:=n0_;have HO556:=n1_;have BK552:=n2_;have HB:=n3_;clear n0_ n1_ n2_ n3_;(try clear hb);(try clear ho0))|((with_reducible refine gate_dst (N:=5) rfl ?_);(try (refine gate_guard (by rfl) ?_;dsimp only));refine box_event ?hg (N:=5) ?hd (cs:=#[.string (⟨#[]⟩:ByteArray), .slice none 0 0, .bool false, .string (⟨#[]⟩:ByteArray)]) (t:=25) ?hr ?_;(case hd=>rfl);(case hg=>rfl);(case hr=>(go_simp <;> rfl));intro gb560 hg w12 hbox hb;have n0_:=bH HO548 hb;have n1_:=bH HO556 hb;have n2_:=Am (blk_below (bB BK552.out) hb);have n3_:=Am (bT (by repeat (first|(with_reducible first|exact HB.out|apply bA|apply bN|apply bD|refine bS ?_ GE552.out)|exact HB.out)) hb);have n4_:=Am (hbox);have n5_:=Am ((by rw [hg];exact (bU (by repeat (first|(with_reducible first|exact HB.out|apply bA|apply bN|apply bD|refine bS ?_ GE552.out)|exact HB.out))):w.heap.size ≤ gb560));have n6_:=n5_;have n7_:=Am ((by rw [hg];exact Nat.ne_of_lt (blk_lt (bB BK552.out)):gb552 ≠ gb560));have n8_:=Am ((by rw [hg];exact Nat.ne_of_gt (blk_lt (bB BK552.out)):gb560 ≠ gb552));clear HO548 HO556 BK552 HB;have HO548:=n0_;have HO556:=n1_;have BK552:=n2_;have HB:=n3_;have BK560:=n4_;have GW560:=n5_;have GE560:=n6_;have NB552_560:=n7_;have NB560_552:=n8_;clear n0_ n1_ n2_ n3_ n4_ n5_ n6_ n7_ n8_ hb hbox hg;have hnb13:=NB560_552.out;have hnc13:=NB552_560.out;obtain ⟨hcz14_0,hcz14_1,hcz14_2,hcz14_3,hfz14_0,hfz14_1,hfz14_2,hfz14_3⟩:=bX BK560.out;obtain ⟨Ao15,co15,eo15⟩:=Kd.R_slice HO556.out;subst eo15;obtain ⟨hcz16_0,hcz16_1,hcz16_2,hcz16_3,hfz16_0,hfz16_1,hfz16_2,hfz16_3⟩:=bX BK552.out)|((with_reducible refine gate_callee (f:=13) rfl ?_);refine goesL_ (some 31) rfl rfl Tryd.func13 (by kernel_rfl) rfl #[.agg #[.string t545, .slice Ao10 t546.length co10, .bool t549, .string t550], .string t551] rfl (aE2 rfl rfl) ?_;(with_reducible refine (impl_AddrJoin.calls k t545 _ _ t546 t549 t550 t551 t561 t562 t565 t566 t567 _ ?side1 ?side2 A5.out).mono ?_);(case side1=>refine (Kd.R_reads' (e:=9) (base:=w.heap.size) (ok:=fun k_=>(True ∧ some k_ ≠ (.slice Ao15 t554.length co15:Value).ownBlock)) (n:=t546.length) (c:=co10) ?_).2.2;exact (by (with_reducible repeat (first|apply rA|apply rN|apply rD));exact (bQ HO548.out BK560.out (by decide) _ _ _ _)));(case side2=>exact (Kd.R_reads' HO548.out).2.1);rintro e w17 ⟨v563,rfl,ho0,hb⟩;refine ⟨_,rfl,?_⟩;have n0_:=Am (Kd.R_elder' (by (with_reducible repeat (first|apply rA|apply rN|apply rD));exact (bQ HO548.out BK560.out (by decide) _ _ _ _)) (Kd.R_base ho0) hb);have n1_:=Am (Kd.R_elder' (by (with_reducible repeat (first|apply rA|apply rN|apply rD));exact (bQ HO556.out BK560.out (by decide) _ _ _ _)) (Kd.R_base ho0) hb);have n2_:=Am (Kd.R_lower (Kd.R_new' (Kd.R_new' ho0 (Kd.R_lt (by (with_reducible repeat (first|apply rA|apply rN|apply rD));exact (bQ HO548.out BK560.out (by decide) _ _ _ _)))) (Kd.R_lt (by (with_reducible repeat (first|apply rA|apply rN|apply rD));exact (bQ HO556.out BK560.out (by decide) _ _ _ _)))) (bU (by repeat (first|(with_reducible first|exact HB.out|apply bA|apply bN|apply bD|refine bS ?_ GE552.out|refine bS ?_ GE560.out)|exact HB.out))));have n3_:=Am (blk_below (g:=gb552) (o:=.cells #[.string t545, .slice Ao10 t546.length co10, .bool t549, .string t550] 25 (0,0)) (by refine bB ?_;refine bF ?_ NB552_560.out;refine bB ?_;exact BK552.out) hb);have n4_:=Am (blk_below (g:=gb560) (o:=.cells #[.string t553, .slice Ao15 t554.length co15, .bool t557, .string t558] 25 (0,0)) (by refine bB ?_;apply bP;refine bB ?_;exact BK560.out) hb);have n5_:=Am (bT (by repeat (first|(with_reducible first|exact HB.out|apply bA|apply bN|apply bD|refine bS ?_ GE552.out|refine bS ?_ GE560.out)|exact HB.out)) hb);clear HO548 HO556 BK552 BK560 HB;have HO548:=n0_;have HO556:=n1_;have HO564:=n2_;have BK552:=n3_;have BK560:=n4_;have HB:=n5_;clear n0_ n1_ n2_ n3_ n4_ n5_;(try clear hb);(try clear ho0))|((with_reducible refine gate_dst (N:=7) rfl ?_);(try (refine gate_guard (by rfl) ?_;dsimp only));refine box_event ?hg (N:=7) ?hd (cs:=#[.string (⟨#[]⟩:ByteArray), .slice none 0 0, .bool false, .string (⟨#[]⟩:ByteArray)]) (t:=25) ?hr ?_;(case hd=>rfl);(case hg=>rfl);(case hr=>(go_simp <;> rfl));intro gb568 hg w18 hbox hb;have n0_:=bH HO548 hb;have n1_:=bH HO556 hb;have n2_:=bH HO564 hb;have n3_:=Am (blk_below (bB BK552.out) hb);have n4_:=Am (blk_below (bB BK560.out) hb);have n5_:=Am (bT (by repeat (first|(with_reducible first|exact HB.out|apply bA|apply bN|apply bD|refine bS ?_ GE552.out|refine bS ?_ GE560.out)|exact HB.out)) hb);have n6_:=Am (hbox);have n7_:=Am ((by rw [hg];exact (bU (by repeat (first|(with_reducible first|exact HB.out|apply bA|apply bN|apply bD|refine bS ?_ GE552.out|refine bS ?_ GE560.out)|exact HB.out))):w.heap.size ≤ gb568));have n8_:=n7_;have n9_:=Am ((by rw [hg];exact Nat.ne_of_lt (blk_lt (bB BK552.out)):gb552 ≠ gb568));have n10_:=Am ((by rw [hg];exact Nat.ne_of_gt (blk_lt (bB BK552.out)):gb568 ≠ gb552));have n11_:=Am ((by rw [hg];exact Nat.ne_of_lt (blk_lt (bB BK560.out)):gb560 ≠ gb568));have n12_:=Am ((by rw [hg];exact Nat.ne_of_gt (blk_lt (bB BK560.out)):gb568 ≠ gb560));clear HO548 HO556 HO564 BK552 BK560 HB;have HO548:=n0_;have HO556:=n1_;have HO564:=n2_;have BK552:=n3_;have BK560:=n4_;have HB:=n5_;have BK568:=n6_;have GW568:=n7_;have GE568:=n8_;have NB552_568:=n9_;have NB568_552:=n10_;have NB560_568:=n11_;have NB568_560:=n12_;clear n0_ n1_ n2_ n3_ n4_ n5_ n6_ n7_ n8_ n9_ n10_ n11_ n12_ hb hbox hg;have hnb19:=NB568_552.out;have hnc19:=NB552_568.out;have hnb20:=NB568_560.out;have hnc20:=NB560_568.out;obtain ⟨hcz21_0,hcz21_1,hcz21_2,hcz21_3,hfz21_0,hfz21_1,hfz21_2,hfz21_3⟩:=bX BK568.out;obtain ⟨Ao22,co22,eo22⟩:=Kd.R_slice HO564.out;subst eo22))
  (try simp only [Act.put,lT,lZ,lS])
  go_cut [53] (fun v53 wc=>∃ (kq:Nat) (x53_5:Bool),v53 = .bool x53_5 ∧ Aside0 (laws_FnJoinBeside.j0 kq t559 t567 x53_5 t545 t546 t549 t550 t553 t554 t557 t558 t561 t562 t565 t566 = some r) ∧ Aside0 (kq ≤ k) ∧ Aside0 (Kd.R Kd.string 9 wc w.heap.size (fun k_=>some k_ ≠ ((.slice Ao15 t554.length co15):Value).ownBlock ∧ some k_ ≠ ((.slice Ao22 t562.length co22):Value).ownBlock) (.slice Ao10 t546.length co10) t546) ∧ Aside0 (Kd.R Kd.string 9 wc w.heap.size (fun k_=>some k_ ≠ ((.slice Ao10 t546.length co10):Value).ownBlock ∧ some k_ ≠ ((.slice Ao22 t562.length co22):Value).ownBlock) (.slice Ao15 t554.length co15) t554) ∧ Aside0 (Kd.R Kd.string 9 wc w.heap.size (fun k_=>some k_ ≠ ((.slice Ao10 t546.length co10):Value).ownBlock ∧ some k_ ≠ ((.slice Ao15 t554.length co15):Value).ownBlock) (.slice Ao22 t562.length co22) t562) ∧ Aside0 (wc.heap[gb552]? = some (.cells #[.string t545,(.slice Ao10 t546.length co10), .bool t549, .string t550] 25 (0,0))) ∧ Aside0 (wc.heap[gb560]? = some (.cells #[.string t553,(.slice Ao15 t554.length co15), .bool t557, .string t558] 25 (0,0))) ∧ Aside0 (wc.heap[gb568]? = some (.cells #[.string t561,(.slice Ao22 t562.length co22), .bool t565, .string t566] 25 (0,0))) ∧ Aside0 (Below w.heap.size w wc))
  case first =>
   have H:=HC6.out
   clear HC6
   by_cases c23:(t567 != t559) = true
   ·rw [if_pos c23] at H
    exact absurd H (by simp)
   ·rw [if_neg c23] at H
    have c23b0:(t567 != t559) = false:=by simpa using c23
    (try (have c23b1:decide (t567 = t559) = true:=by simpa using c23))
    (try (have c23b2:(t567 == t559) = true:=by simpa using c23))
    clear c23
    (first|rw [c23b0]|(simp only [i64_w,i32_w];rw [c23b0])|skip)
    replace H:=bI H
    obtain ⟨t569,A240,H⟩:=H
    replace H:(if t569 = true then ((spec_AddrOk.f k t545 t546 t549 t550).bind fun t570=>(if t570 = true then (laws_FnJoinBeside.j0 k t559 t567 ((t546.length:Int) == 0) t545 t546 t549 t550 t553 t554 t557 t558 t561 t562 t565 t566) else (laws_FnJoinBeside.j0 k t559 t567 true t545 t546 t549 t550 t553 t554 t557 t558 t561 t562 t565 t566))) else (none)) = some r:=H
    have A24:=Am A240
    clear A240
    by_cases c25:t569 = true
    ·subst c25
     have H1:((spec_AddrOk.f k t545 t546 t549 t550).bind fun t570=>(if t570 = true then (laws_FnJoinBeside.j0 k t559 t567 ((t546.length:Int) == 0) t545 t546 t549 t550 t553 t554 t557 t558 t561 t562 t565 t566) else (laws_FnJoinBeside.j0 k t559 t567 true t545 t546 t549 t550 t553 t554 t557 t558 t561 t562 t565 t566))) = some r:=by rw [if_pos rfl] at H;exact H
     clear H
     have H:=H1
     clear H1
     replace H:=bI H
     obtain ⟨t570,A260,H⟩:=H
     replace H:(if t570 = true then (laws_FnJoinBeside.j0 k t559 t567 ((t546.length:Int) == 0) t545 t546 t549 t550 t553 t554 t557 t558 t561 t562 t565 t566) else (laws_FnJoinBeside.j0 k t559 t567 true t545 t546 t549 t550 t553 t554 t557 t558 t561 t562 t565 t566)) = some r:=H
     have A26:=Am A260
     clear A260
     by_cases c27:t570 = true
     ·subst c27
      have H1:(laws_FnJoinBeside.j0 k t559 t567 ((t546.length:Int) == 0) t545 t546 t549 t550 t553 t554 t557 t558 t561 t562 t565 t566) = some r:=by rw [if_pos rfl] at H;exact H
      clear H
      have H:=H1
      clear H1
      have H':=Am H
      clear H
      have hnb28:=NB568_552.out
      have hnc28:=NB552_568.out
      have hnb29:=NB568_560.out
      have hnc29:=NB560_568.out
      obtain ⟨hcz30_0,hcz30_1,hcz30_2,hcz30_3,hfz30_0,hfz30_1,hfz30_2,hfz30_3⟩:=bX BK568.out







      have hnb31:=NB560_552.out
      have hnc31:=NB552_560.out
      obtain ⟨hcz32_0,hcz32_1,hcz32_2,hcz32_3,hfz32_0,hfz32_1,hfz32_2,hfz32_3⟩:=bX BK560.out







      go_wp2_with (first|(go_at_call 14;(with_reducible refine (laws_lpAddr.calls k t561 _ _ t562 t565 t566 t553 _ _ t554 t557 t558 true _ ?side1 ?side2 ?side3 ?side4 A24.out).mono ?_);(case side1=>refine (Kd.R_reads' (e:=9) (base:=w.heap.size) (ok:=fun k_=>((True ∧ some k_ ≠ (.slice Ao10 t546.length co10:Value).ownBlock) ∧ some k_ ≠ (.slice Ao15 t554.length co15:Value).ownBlock)) (n:=t562.length) (c:=co22) ?_).2.2;exact (by (with_reducible repeat (first|apply rA|apply rN|apply rD));exact (bQ HO564.out BK568.out (by decide) _ _ _ _)));(case side2=>exact (Kd.R_reads' HO564.out).2.1);(case side3=>refine (Kd.R_reads' (e:=9) (base:=w.heap.size) (ok:=fun k_=>((True ∧ some k_ ≠ (.slice Ao10 t546.length co10:Value).ownBlock) ∧ some k_ ≠ (.slice Ao22 t562.length co22:Value).ownBlock)) (n:=t554.length) (c:=co15) ?_).2.2;exact (by (with_reducible repeat (first|apply rA|apply rN|apply rD));exact (bQ HO556.out BK568.out (by decide) _ _ _ _)));(case side4=>exact (Kd.R_reads' HO556.out).2.1);rintro e w33 ⟨rfl,hb⟩;have n0_:=Am (Kd.R_below (by (with_reducible repeat (first|apply rA|apply rN|apply rD));exact (bQ HO548.out BK568.out (by decide) _ _ _ _)) hb);have n1_:=Am (Kd.R_below (by (with_reducible repeat (first|apply rA|apply rN|apply rD));exact (bQ HO556.out BK568.out (by decide) _ _ _ _)) hb);have n2_:=Am (Kd.R_below (by (with_reducible repeat (first|apply rA|apply rN|apply rD));exact (bQ HO564.out BK568.out (by decide) _ _ _ _)) hb);have n3_:=Am (blk_below (g:=gb552) (o:=.cells #[.string t545, .slice Ao10 t546.length co10, .bool t549, .string t550] 25 (0,0)) (by refine bB ?_;refine bF ?_ NB552_568.out;refine bB ?_;exact BK552.out) hb);have n4_:=Am (blk_below (g:=gb560) (o:=.cells #[.string t553, .slice Ao15 t554.length co15, .bool t557, .string t558] 25 (0,0)) (by refine bB ?_;refine bF ?_ NB560_568.out;refine bB ?_;exact BK560.out) hb);have n5_:=Am (blk_below (g:=gb568) (o:=.cells #[.string t561, .slice Ao22 t562.length co22, .bool t565, .string t566] 25 (0,0)) (by refine bB ?_;apply bP;refine bB ?_;exact BK568.out) hb);have n6_:=Am (bT (by repeat (first|(with_reducible first|exact HB.out|apply bA|apply bN|apply bD|refine bS ?_ GE552.out|refine bS ?_ GE560.out|refine bS ?_ GE568.out)|exact HB.out)) hb);clear HO548 HO556 HO564 BK552 BK560 BK568 HB;have HO548:=n0_;have HO556:=n1_;have HO564:=n2_;have BK552:=n3_;have BK560:=n4_;have BK568:=n5_;have HB:=n6_;clear n0_ n1_ n2_ n3_ n4_ n5_ n6_;(try clear hb);obtain ⟨hcz34_0,hcz34_1,hcz34_2,hcz34_3,hfz34_0,hfz34_1,hfz34_2,hfz34_3⟩:=bX BK552.out)|(go_at_call 15;(with_reducible refine (spec_AddrOk.calls k t545 _ _ t546 t549 t550 true _ ?side1 ?side2 A26.out).mono ?_);(case side1=>repeat (first|exact (Kd.R_reads' HO548.out).2.2|(with_reducible refine bC ?_)));(case side2=>exact (Kd.R_reads' HO548.out).2.1);rintro e w35 ⟨rfl,hb⟩;have n0_:=bH HO548 hb;have n1_:=bH HO556 hb;have n2_:=bH HO564 hb;have n3_:=Am (blk_below (bB BK552.out) hb);have n4_:=Am (blk_below (bB BK560.out) hb);have n5_:=Am (blk_below (bB BK568.out) hb);have n6_:=Am (bT (by repeat (first|(with_reducible first|exact HB.out|apply bA|apply bN|apply bD|refine bS ?_ GE552.out|refine bS ?_ GE560.out|refine bS ?_ GE568.out)|exact HB.out)) hb);clear HO548 HO556 HO564 BK552 BK560 BK568 HB;have HO548:=n0_;have HO556:=n1_;have HO564:=n2_;have BK552:=n3_;have BK560:=n4_;have BK568:=n5_;have HB:=n6_;clear n0_ n1_ n2_ n3_ n4_ n5_ n6_;(try clear hb);obtain ⟨hcz36_0,hcz36_1,hcz36_2,hcz36_3,hfz36_0,hfz36_1,hfz36_2,hfz36_3⟩:=bX BK552.out))
      go_meet
      case rel=>exact ⟨_,(((t546.length:Int) == 0)),(by first|rfl|(simp;done)|(simp only [i64_w,i32_w] <;> rfl)|(simp [*];done)|(simp [emp_bne,emp_beq];done)),H',⟨by first|omega|exact Nat.le_refl _⟩,⟨by (with_reducible repeat (first|apply rA|apply rN|apply rD));exact Kd.R_mono HO548.out (fun _ hk=>⟨hk.1.2,hk.2⟩)⟩,⟨by (with_reducible repeat (first|apply rA|apply rN|apply rD));exact Kd.R_mono HO556.out (fun _ hk=>⟨hk.1.2,hk.2⟩)⟩,⟨by (with_reducible repeat (first|apply rA|apply rN|apply rD));exact Kd.R_mono HO564.out (fun _ hk=>⟨hk.1.2,hk.2⟩)⟩,⟨by refine bB ?_;exact BK552.out⟩,⟨by refine bB ?_;exact BK560.out⟩,⟨by refine bB ?_;exact BK568.out⟩,⟨by repeat (first|(with_reducible first|exact HB.out|apply bA|apply bN|apply bD|refine bS ?_ GE552.out|refine bS ?_ GE560.out|refine bS ?_ GE568.out)|exact HB.out)⟩⟩
     ·replace c27:=Bool.eq_false_iff.mpr c27
      subst c27
      have H1:(laws_FnJoinBeside.j0 k t559 t567 true t545 t546 t549 t550 t553 t554 t557 t558 t561 t562 t565 t566) = some r:=by rw [if_neg (show ¬ (false = true) by decide)] at H;exact H
      clear H
      have H:=H1
      clear H1
      have H':=Am H
      clear H
      have hnb37:=NB568_552.out
      have hnc37:=NB552_568.out
      have hnb38:=NB568_560.out
      have hnc38:=NB560_568.out
      obtain ⟨hcz39_0,hcz39_1,hcz39_2,hcz39_3,hfz39_0,hfz39_1,hfz39_2,hfz39_3⟩:=bX BK568.out







      have hnb40:=NB560_552.out
      have hnc40:=NB552_560.out
      obtain ⟨hcz41_0,hcz41_1,hcz41_2,hcz41_3,hfz41_0,hfz41_1,hfz41_2,hfz41_3⟩:=bX BK560.out







      go_wp2_with (first|(go_at_call 14;(with_reducible refine (laws_lpAddr.calls k t561 _ _ t562 t565 t566 t553 _ _ t554 t557 t558 true _ ?side1 ?side2 ?side3 ?side4 A24.out).mono ?_);(case side1=>refine (Kd.R_reads' (e:=9) (base:=w.heap.size) (ok:=fun k_=>((True ∧ some k_ ≠ (.slice Ao10 t546.length co10:Value).ownBlock) ∧ some k_ ≠ (.slice Ao15 t554.length co15:Value).ownBlock)) (n:=t562.length) (c:=co22) ?_).2.2;exact (by (with_reducible repeat (first|apply rA|apply rN|apply rD));exact (bQ HO564.out BK568.out (by decide) _ _ _ _)));(case side2=>exact (Kd.R_reads' HO564.out).2.1);(case side3=>refine (Kd.R_reads' (e:=9) (base:=w.heap.size) (ok:=fun k_=>((True ∧ some k_ ≠ (.slice Ao10 t546.length co10:Value).ownBlock) ∧ some k_ ≠ (.slice Ao22 t562.length co22:Value).ownBlock)) (n:=t554.length) (c:=co15) ?_).2.2;exact (by (with_reducible repeat (first|apply rA|apply rN|apply rD));exact (bQ HO556.out BK568.out (by decide) _ _ _ _)));(case side4=>exact (Kd.R_reads' HO556.out).2.1);rintro e w42 ⟨rfl,hb⟩;have n0_:=Am (Kd.R_below (by (with_reducible repeat (first|apply rA|apply rN|apply rD));exact (bQ HO548.out BK568.out (by decide) _ _ _ _)) hb);have n1_:=Am (Kd.R_below (by (with_reducible repeat (first|apply rA|apply rN|apply rD));exact (bQ HO556.out BK568.out (by decide) _ _ _ _)) hb);have n2_:=Am (Kd.R_below (by (with_reducible repeat (first|apply rA|apply rN|apply rD));exact (bQ HO564.out BK568.out (by decide) _ _ _ _)) hb);have n3_:=Am (blk_below (g:=gb552) (o:=.cells #[.string t545, .slice Ao10 t546.length co10, .bool t549, .string t550] 25 (0,0)) (by refine bB ?_;refine bF ?_ NB552_568.out;refine bB ?_;exact BK552.out) hb);have n4_:=Am (blk_below (g:=gb560) (o:=.cells #[.string t553, .slice Ao15 t554.length co15, .bool t557, .string t558] 25 (0,0)) (by refine bB ?_;refine bF ?_ NB560_568.out;refine bB ?_;exact BK560.out) hb);have n5_:=Am (blk_below (g:=gb568) (o:=.cells #[.string t561, .slice Ao22 t562.length co22, .bool t565, .string t566] 25 (0,0)) (by refine bB ?_;apply bP;refine bB ?_;exact BK568.out) hb);have n6_:=Am (bT (by repeat (first|(with_reducible first|exact HB.out|apply bA|apply bN|apply bD|refine bS ?_ GE552.out|refine bS ?_ GE560.out|refine bS ?_ GE568.out)|exact HB.out)) hb);clear HO548 HO556 HO564 BK552 BK560 BK568 HB;have HO548:=n0_;have HO556:=n1_;have HO564:=n2_;have BK552:=n3_;have BK560:=n4_;have BK568:=n5_;have HB:=n6_;clear n0_ n1_ n2_ n3_ n4_ n5_ n6_;(try clear hb);obtain ⟨hcz43_0,hcz43_1,hcz43_2,hcz43_3,hfz43_0,hfz43_1,hfz43_2,hfz43_3⟩:=bX BK552.out)|(go_at_call 15;(with_reducible refine (spec_AddrOk.calls k t545 _ _ t546 t549 t550 false _ ?side1 ?side2 A26.out).mono ?_);(case side1=>repeat (first|exact (Kd.R_reads' HO548.out).2.2|(with_reducible refine bC ?_)));(case side2=>exact (Kd.R_reads' HO548.out).2.1);rintro e w44 ⟨rfl,hb⟩;have n0_:=bH HO548 hb;have n1_:=bH HO556 hb;have n2_:=bH HO564 hb;have n3_:=Am (blk_below (bB BK552.out) hb);have n4_:=Am (blk_below (bB BK560.out) hb);have n5_:=Am (blk_below (bB BK568.out) hb);have n6_:=Am (bT (by repeat (first|(with_reducible first|exact HB.out|apply bA|apply bN|apply bD|refine bS ?_ GE552.out|refine bS ?_ GE560.out|refine bS ?_ GE568.out)|exact HB.out)) hb);clear HO548 HO556 HO564 BK552 BK560 BK568 HB;have HO548:=n0_;have HO556:=n1_;have HO564:=n2_;have BK552:=n3_;have BK560:=n4_;have BK568:=n5_;have HB:=n6_;clear n0_ n1_ n2_ n3_ n4_ n5_ n6_;(try clear hb)))
      go_meet
      case rel=>exact ⟨_,(true),(by first|rfl|(simp;done)|(simp only [i64_w,i32_w] <;> rfl)|(simp [*];done)|(simp [emp_bne,emp_beq];done)),H',⟨by first|omega|exact Nat.le_refl _⟩,⟨by (with_reducible repeat (first|apply rA|apply rN|apply rD));exact Kd.R_mono HO548.out (fun _ hk=>⟨hk.1.2,hk.2⟩)⟩,⟨by (with_reducible repeat (first|apply rA|apply rN|apply rD));exact Kd.R_mono HO556.out (fun _ hk=>⟨hk.1.2,hk.2⟩)⟩,⟨by (with_reducible repeat (first|apply rA|apply rN|apply rD));exact Kd.R_mono HO564.out (fun _ hk=>⟨hk.1.2,hk.2⟩)⟩,⟨by refine bB ?_;exact BK552.out⟩,⟨by refine bB ?_;exact BK560.out⟩,⟨by refine bB ?_;exact BK568.out⟩,⟨by repeat (first|(with_reducible first|exact HB.out|apply bA|apply bN|apply bD|refine bS ?_ GE552.out|refine bS ?_ GE560.out|refine bS ?_ GE568.out)|exact HB.out)⟩⟩
    ·replace c25:=Bool.eq_false_iff.mpr c25
     subst c25
     have H1:(none) = some r:=by rw [if_neg (show ¬ (false = true) by decide)] at H;exact H
     clear H
     have H:=H1
     clear H1
     exact absurd H (by simp)
  case rest =>
   clear HC6
   try clear c1
   try clear c2
   try clear c2b0
   try clear c2b1
   try clear p2
   try clear c3
   try clear c4
   try clear c8
   try clear c11
   try clear c12
   try clear c13
   try clear c19
   try clear c20
   try clear c23
   try clear c23b0
   try clear c23b1
   try clear c23b2
   try clear c25
   try clear c27
   try clear c28
   try clear c29
   try clear c31
   try clear c37
   try clear c38
   try clear c40
   try clear hcz14_0
   try clear hcz14_1
   try clear hcz14_2
   try clear hcz14_3
   try clear hcz16_0
   try clear hcz16_1
   try clear hcz16_2
   try clear hcz16_3
   try clear hcz21_0
   try clear hcz21_1
   try clear hcz21_2
   try clear hcz21_3
   try clear hcz30_0
   try clear hcz30_1
   try clear hcz30_2
   try clear hcz30_3
   try clear hcz32_0
   try clear hcz32_1
   try clear hcz32_2
   try clear hcz32_3
   try clear hcz34_0
   try clear hcz34_1
   try clear hcz34_2
   try clear hcz34_3
   try clear hcz36_0
   try clear hcz36_1
   try clear hcz36_2
   try clear hcz36_3
   try clear hcz39_0
   try clear hcz39_1
   try clear hcz39_2
   try clear hcz39_3
   try clear hcz41_0
   try clear hcz41_1
   try clear hcz41_2
   try clear hcz41_3
   try clear hcz43_0
   try clear hcz43_1
   try clear hcz43_2
   try clear hcz43_3
   try clear hcz9_0
   try clear hcz9_1
   try clear hcz9_2
   try clear hcz9_3
   try clear hfz14_0
   try clear hfz14_1
   try clear hfz14_2
   try clear hfz14_3
   try clear hfz16_0
   try clear hfz16_1
   try clear hfz16_2
   try clear hfz16_3
   try clear hfz21_0
   try clear hfz21_1
   try clear hfz21_2
   try clear hfz21_3
   try clear hfz30_0
   try clear hfz30_1
   try clear hfz30_2
   try clear hfz30_3
   try clear hfz32_0
   try clear hfz32_1
   try clear hfz32_2
   try clear hfz32_3
   try clear hfz34_0
   try clear hfz34_1
   try clear hfz34_2
   try clear hfz34_3
   try clear hfz36_0
   try clear hfz36_1
   try clear hfz36_2
   try clear hfz36_3
   try clear hfz39_0
   try clear hfz39_1
   try clear hfz39_2
   try clear hfz39_3
   try clear hfz41_0
   try clear hfz41_1
   try clear hfz41_2
   try clear hfz41_3
   try clear hfz43_0
   try clear hfz43_1
   try clear hfz43_2
   try clear hfz43_3
   try clear hfz9_0
   try clear hfz9_1
   try clear hfz9_2
   try clear hfz9_3
   obtain ⟨kq,x53_5,rfl,HA,HJ5,HO_553001,HO_561001,HO_569001,BK552,BK560,BK568,HB⟩:=hcut
   cases kq with
   | zero=>exact absurd HA.out (by simp [laws_FnJoinBeside.j0])
   | succ kj5 =>
    have H:=HA.out
    clear HA
    simp only [laws_FnJoinBeside.j0] at H
    by_cases c45:x53_5 = true
    ·subst c45
     have H1:(if (t567 == t559) = true then ((laws_lpAddr.f kj5 t561 t562 t565 t566 t553 t554 t557 t558).bind fun t571=>(some t571)) else (none)) = some r:=by rw [if_pos rfl] at H;exact H
     clear H
     have H:=H1
     clear H1
     by_cases c46:(t567 == t559) = true
     ·rw [if_pos c46] at H
      have c46b0:(t567 == t559) = true:=c46
      (try (have c46b1:decide (t567 = t559) = true:=by simpa using c46))
      (try (have c46b2:(t567 == t559) = true:=by simpa using c46))
      clear c46
      replace H:=bI H
      obtain ⟨t571,A470,H⟩:=H
      replace H:(some t571) = some r:=H
      have A47:=Am A470
      clear A470
      obtain rfl:=Option.some.inj H
      have hnb48:=NB568_552.out
      have hnc48:=NB552_568.out
      have hnb49:=NB568_560.out
      have hnc49:=NB560_568.out
      obtain ⟨hcz50_0,hcz50_1,hcz50_2,hcz50_3,hfz50_0,hfz50_1,hfz50_2,hfz50_3⟩:=bX BK568.out







      have hnb51:=NB560_552.out
      have hnc51:=NB552_560.out
      obtain ⟨hcz52_0,hcz52_1,hcz52_2,hcz52_3,hfz52_0,hfz52_1,hfz52_2,hfz52_3⟩:=bX BK560.out







      go_wp2_with (first|(go_at_call 14;(with_reducible refine (laws_lpAddr.calls kj5 t561 _ _ t562 t565 t566 t553 _ _ t554 t557 t558 t571 _ ?side1 ?side2 ?side3 ?side4 A47.out).mono ?_);(case side1=>repeat (first|exact (Kd.R_reads' HO_569001.out).2.2|(with_reducible refine bC ?_)));(case side2=>exact (Kd.R_reads' HO_569001.out).2.1);(case side3=>repeat (first|exact (Kd.R_reads' HO_561001.out).2.2|(with_reducible refine bC ?_)));(case side4=>exact (Kd.R_reads' HO_561001.out).2.1);rintro e w53 ⟨rfl,hb⟩;have n0_:=bH HO_553001 hb;have n1_:=bH HO_561001 hb;have n2_:=bH HO_569001 hb;have n3_:=Am (blk_below (bB BK552.out) hb);have n4_:=Am (blk_below (bB BK560.out) hb);have n5_:=Am (blk_below (bB BK568.out) hb);have n6_:=Am (bT (by repeat (first|(with_reducible first|exact HB.out|apply bA|apply bN|apply bD|refine bS ?_ GE552.out|refine bS ?_ GE560.out|refine bS ?_ GE568.out)|exact HB.out)) hb);clear HO_553001 HO_561001 HO_569001 BK552 BK560 BK568 HB;have HO_553001:=n0_;have HO_561001:=n1_;have HO_569001:=n2_;have BK552:=n3_;have BK560:=n4_;have BK568:=n5_;have HB:=n6_;clear n0_ n1_ n2_ n3_ n4_ n5_ n6_;(try clear hb)))
      go_ret
      exact ⟨by first|rfl|(simp <;> rfl)|(simp [*] <;> rfl),by repeat (first|(with_reducible first|exact HB.out|apply bA|apply bN|apply bD|refine bS ?_ GE552.out|refine bS ?_ GE560.out|refine bS ?_ GE568.out)|exact HB.out)⟩
     ·rw [if_neg c46] at H
      exact absurd H (by simp)
    ·replace c45:=Bool.eq_false_iff.mpr c45
     subst c45
     have H1:((impl_AddrJoin.f kj5 t545 t546 t549 t550 (⟨#[113]⟩:ByteArray)).bind fun bt572=>((impl_AddrJoin.f kj5 t545 t546 t549 t550 (⟨#[46,47,119,47,46,46,47,113]⟩:ByteArray)).bind fun bt580=>((some (([]:List ByteArray):List ByteArray)).bind fun y588=>(if 0 ≤ (wrap64 ((t546.length:Int) - 1)) then (if (wrap64 ((t546.length:Int) - 1)) ≤ (t546.length:Int) then ((some (t546.take ((wrap64 ((t546.length:Int) - 1)):Int).toNat:List ByteArray)).bind fun y591=>(if y588.length + y591.length < 8796093022208 then ((some (y588 ++ y591:List ByteArray)).bind fun y595=>(if y595.length < 8796093022208 then (if (bt572.2.2.2.2 == bt580.2.2.2.2) = true then ((laws_lpAddr.f kj5 bt572.1 bt572.2.1 bt572.2.2.1 bt572.2.2.2.1 bt580.1 bt580.2.1 bt580.2.2.1 bt580.2.2.2.1).bind fun t601=>(if t601 = true then (if bt572.2.2.2.2 = true then ((laws_lpAddr.f kj5 bt572.1 bt572.2.1 bt572.2.2.1 bt572.2.2.2.1 t545 (y595 ++ [(⟨#[113]⟩:ByteArray)]) false (⟨#[]⟩:ByteArray)).bind fun t602=>(some t602)) else (some true)) else (none))) else (none)) else (none))) else (none))) else (none)) else (none))))) = some r:=by rw [if_neg (show ¬ (false = true) by decide)] at H;exact H
     clear H
     have H:=H1
     clear H1
     replace H:=bI H
     obtain ⟨⟨t572,t573,t576,t577,t578⟩,A540,H⟩:=H
     replace H:((impl_AddrJoin.f kj5 t545 t546 t549 t550 (⟨#[46,47,119,47,46,46,47,113]⟩:ByteArray)).bind fun bt580=>((some (([]:List ByteArray):List ByteArray)).bind fun y588=>(if 0 ≤ (wrap64 ((t546.length:Int) - 1)) then (if (wrap64 ((t546.length:Int) - 1)) ≤ (t546.length:Int) then ((some (t546.take ((wrap64 ((t546.length:Int) - 1)):Int).toNat:List ByteArray)).bind fun y591=>(if y588.length + y591.length < 8796093022208 then ((some (y588 ++ y591:List ByteArray)).bind fun y595=>(if y595.length < 8796093022208 then (if (t578 == bt580.2.2.2.2) = true then ((laws_lpAddr.f kj5 t572 t573 t576 t577 bt580.1 bt580.2.1 bt580.2.2.1 bt580.2.2.2.1).bind fun t601=>(if t601 = true then (if t578 = true then ((laws_lpAddr.f kj5 t572 t573 t576 t577 t545 (y595 ++ [(⟨#[113]⟩:ByteArray)]) false (⟨#[]⟩:ByteArray)).bind fun t602=>(some t602)) else (some true)) else (none))) else (none)) else (none))) else (none))) else (none)) else (none)))) = some r:=H
     have A54:=Am A540
     clear A540
     replace H:=bI H
     obtain ⟨⟨t580,t581,t584,t585,t586⟩,A550,H⟩:=H
     replace H:((some (([]:List ByteArray):List ByteArray)).bind fun y588=>(if 0 ≤ (wrap64 ((t546.length:Int) - 1)) then (if (wrap64 ((t546.length:Int) - 1)) ≤ (t546.length:Int) then ((some (t546.take ((wrap64 ((t546.length:Int) - 1)):Int).toNat:List ByteArray)).bind fun y591=>(if y588.length + y591.length < 8796093022208 then ((some (y588 ++ y591:List ByteArray)).bind fun y595=>(if y595.length < 8796093022208 then (if (t578 == t586) = true then ((laws_lpAddr.f kj5 t572 t573 t576 t577 t580 t581 t584 t585).bind fun t601=>(if t601 = true then (if t578 = true then ((laws_lpAddr.f kj5 t572 t573 t576 t577 t545 (y595 ++ [(⟨#[113]⟩:ByteArray)]) false (⟨#[]⟩:ByteArray)).bind fun t602=>(some t602)) else (some true)) else (none))) else (none)) else (none))) else (none))) else (none)) else (none))) = some r:=H
     have A55:=Am A550
     clear A550
     obtain ⟨y588,hy588⟩:∃ y_:List ByteArray,y_ = (([]:List ByteArray)):=⟨_,rfl⟩
     replace H:(if 0 ≤ (wrap64 ((t546.length:Int) - 1)) then (if (wrap64 ((t546.length:Int) - 1)) ≤ (t546.length:Int) then ((some (t546.take ((wrap64 ((t546.length:Int) - 1)):Int).toNat:List ByteArray)).bind fun y591=>(if y588.length + y591.length < 8796093022208 then ((some (y588 ++ y591:List ByteArray)).bind fun y595=>(if y595.length < 8796093022208 then (if (t578 == t586) = true then ((laws_lpAddr.f kj5 t572 t573 t576 t577 t580 t581 t584 t585).bind fun t601=>(if t601 = true then (if t578 = true then ((laws_lpAddr.f kj5 t572 t573 t576 t577 t545 (y595 ++ [(⟨#[113]⟩:ByteArray)]) false (⟨#[]⟩:ByteArray)).bind fun t602=>(some t602)) else (some true)) else (none))) else (none)) else (none))) else (none))) else (none)) else (none)) = some r:=by first|(rw [hy588];with_reducible exact H)|(have H2_:=(Option.bind_some _ _).symm.trans H;rw [hy588];with_reducible exact H2_)|(have H2_:=(Option.bind_some _ _).symm.trans H;with_reducible exact H2_)|with_reducible exact H|(rw [hy588];exact H)|exact H
     have Ny588:=Am hy588
     clear hy588
     obtain ⟨ji56,hji56⟩:∃ j_:Int,(wrap64 ((t546.length:Int) - 1)) = j_:=⟨_,rfl⟩
     replace H:(if 0 ≤ (ji56) then (if (ji56) ≤ (t546.length:Int) then ((some (t546.take ((ji56):Int).toNat:List ByteArray)).bind fun y591=>(if y588.length + y591.length < 8796093022208 then ((some (y588 ++ y591:List ByteArray)).bind fun y595=>(if y595.length < 8796093022208 then (if (t578 == t586) = true then ((laws_lpAddr.f kj5 t572 t573 t576 t577 t580 t581 t584 t585).bind fun t601=>(if t601 = true then (if t578 = true then ((laws_lpAddr.f kj5 t572 t573 t576 t577 t545 (y595 ++ [(⟨#[113]⟩:ByteArray)]) false (⟨#[]⟩:ByteArray)).bind fun t602=>(some t602)) else (some true)) else (none))) else (none)) else (none))) else (none))) else (none)) else (none)) = some r:=by first|(rw [hji56] at H;exact H)|(simp only [hji56] at H ⊢;exact H)
     (try rw [hji56] at A54)
     (try rw [hji56] at A55)
     have hji56w:(IntKind.i64.wrap ((t546.length:Int) - 1)) = ji56:=(i64_w _).trans hji56
     by_cases c57:0 ≤ (ji56)
     ·rw [if_pos c57] at H
      have c57b0:=eq_true c57
      have c57b1:=decide_eq_true c57
      clear c57
      by_cases c58:(ji56) ≤ (t546.length:Int)
      ·rw [if_pos c58] at H
       have c58b0:=eq_true c58
       have c58b1:=decide_eq_true c58
       clear c58
       obtain ⟨y591,hy591⟩:∃ y_:List ByteArray,y_ = (t546.take ((ji56):Int).toNat):=⟨_,rfl⟩
       replace H:(if y588.length + y591.length < 8796093022208 then ((some (y588 ++ y591:List ByteArray)).bind fun y595=>(if y595.length < 8796093022208 then (if (t578 == t586) = true then ((laws_lpAddr.f kj5 t572 t573 t576 t577 t580 t581 t584 t585).bind fun t601=>(if t601 = true then (if t578 = true then ((laws_lpAddr.f kj5 t572 t573 t576 t577 t545 (y595 ++ [(⟨#[113]⟩:ByteArray)]) false (⟨#[]⟩:ByteArray)).bind fun t602=>(some t602)) else (some true)) else (none))) else (none)) else (none))) else (none)) = some r:=by first|(rw [hy591];with_reducible exact H)|(have H2_:=(Option.bind_some _ _).symm.trans H;rw [hy591];with_reducible exact H2_)|(have H2_:=(Option.bind_some _ _).symm.trans H;with_reducible exact H2_)|with_reducible exact H|(rw [hy591];exact H)|exact H
       have Ny591:=Am hy591
       clear hy591
       by_cases c59:y588.length + y591.length < 8796093022208
       ·rw [if_pos c59] at H
        have LMc59:=Am c59
        clear c59
        obtain ⟨y595,hy595⟩:∃ y_:List ByteArray,y_ = (y588 ++ y591):=⟨_,rfl⟩
        replace H:(if y595.length < 8796093022208 then (if (t578 == t586) = true then ((laws_lpAddr.f kj5 t572 t573 t576 t577 t580 t581 t584 t585).bind fun t601=>(if t601 = true then (if t578 = true then ((laws_lpAddr.f kj5 t572 t573 t576 t577 t545 (y595 ++ [(⟨#[113]⟩:ByteArray)]) false (⟨#[]⟩:ByteArray)).bind fun t602=>(some t602)) else (some true)) else (none))) else (none)) else (none)) = some r:=by first|(rw [hy595];with_reducible exact H)|(have H2_:=(Option.bind_some _ _).symm.trans H;rw [hy595];with_reducible exact H2_)|(have H2_:=(Option.bind_some _ _).symm.trans H;with_reducible exact H2_)|with_reducible exact H|(rw [hy595];exact H)|exact H
        have Ny595:=Am hy595
        clear hy595
        by_cases c60:y595.length < 8796093022208
        ·rw [if_pos c60] at H
         have LMc60:=Am c60
         clear c60
         obtain ⟨y598,hy598⟩:∃ y_:List ByteArray,y_ = (y595 ++ [(⟨#[113]⟩:ByteArray)]):=⟨_,rfl⟩
         replace H:(if (t578 == t586) = true then ((laws_lpAddr.f kj5 t572 t573 t576 t577 t580 t581 t584 t585).bind fun t601=>(if t601 = true then (if t578 = true then ((laws_lpAddr.f kj5 t572 t573 t576 t577 t545 y598 false (⟨#[]⟩:ByteArray)).bind fun t602=>(some t602)) else (some true)) else (none))) else (none)) = some r:=by first|(rw [hy598];with_reducible exact H)|(have H2_:=(Option.bind_some _ _).symm.trans H;rw [hy598];with_reducible exact H2_)|(have H2_:=(Option.bind_some _ _).symm.trans H;with_reducible exact H2_)|with_reducible exact H|(rw [hy598];exact H)|exact H
         have Ny598:=Am hy598
         clear hy598
         by_cases c61:(t578 == t586) = true
         ·rw [if_pos c61] at H
          have c61b0:(t578 == t586) = true:=c61
          (try (have c61b1:decide (t578 = t586) = true:=by simpa using c61))
          (try (have c61b2:(t578 == t586) = true:=by simpa using c61))
          clear c61
          replace H:=bI H
          obtain ⟨t601,A620,H⟩:=H
          replace H:(if t601 = true then (if t578 = true then ((laws_lpAddr.f kj5 t572 t573 t576 t577 t545 y598 false (⟨#[]⟩:ByteArray)).bind fun t602=>(some t602)) else (some true)) else (none)) = some r:=H
          have A62:=Am A620
          clear A620
          by_cases c63:t601 = true
          ·subst c63
           have H1:(if t578 = true then ((laws_lpAddr.f kj5 t572 t573 t576 t577 t545 y598 false (⟨#[]⟩:ByteArray)).bind fun t602=>(some t602)) else (some true)) = some r:=by rw [if_pos rfl] at H;exact H
           clear H
           have H:=H1
           clear H1
           by_cases c64:t578 = true
           ·subst c64
            have H1:((laws_lpAddr.f kj5 t572 t573 t576 t577 t545 y598 false (⟨#[]⟩:ByteArray)).bind fun t602=>(some t602)) = some r:=by rw [if_pos rfl] at H;exact H
            clear H
            have H:=H1
            clear H1
            replace H:=bI H
            obtain ⟨t602,A650,H⟩:=H
            replace H:(some t602) = some r:=H
            have A65:=Am A650
            clear A650
            obtain rfl:=Option.some.inj H
            have hnb66:=NB552_560.out
            have hnc66:=NB560_552.out
            have hnb67:=NB552_568.out
            have hnc67:=NB568_552.out
            obtain ⟨hcz68_0,hcz68_1,hcz68_2,hcz68_3,hfz68_0,hfz68_1,hfz68_2,hfz68_3⟩:=bX BK552.out







            go_wp2_with (first|((with_reducible refine gate_callee (f:=13) rfl ?_);refine goesL_ (some 64) rfl rfl Tryd.func13 (by kernel_rfl) rfl #[.agg #[.string t545, .slice Ao10 t546.length co10, .bool t549, .string t550], .string (⟨#[113]⟩:ByteArray)] rfl (aE2 rfl rfl) ?_;(with_reducible refine (impl_AddrJoin.calls kj5 t545 _ _ t546 t549 t550 (⟨#[113]⟩:ByteArray) t572 t573 t576 t577 true _ ?side1 ?side2 A54.out).mono ?_);(case side1=>repeat (first|exact (Kd.R_reads' HO_553001.out).2.2|(with_reducible refine bC ?_)));(case side2=>exact (Kd.R_reads' HO_553001.out).2.1);rintro e w69 ⟨v574,rfl,ho0,hb⟩;refine ⟨_,rfl,?_⟩;have n0_:=Am (Kd.R_elder' (bR HO_553001.out) (Kd.R_base ho0) hb);have n1_:=Am (Kd.R_elder' (bR HO_561001.out) (Kd.R_base ho0) hb);have n2_:=Am (Kd.R_elder' (bR HO_569001.out) (Kd.R_base ho0) hb);have n3_:=Am (Kd.R_lower (Kd.R_new' (Kd.R_new' (Kd.R_new' ho0 (Kd.R_lt (bR HO_553001.out))) (Kd.R_lt (bR HO_561001.out))) (Kd.R_lt (bR HO_569001.out))) (bU (by repeat (first|(with_reducible first|exact HB.out|apply bA|apply bN|apply bD|refine bS ?_ GE552.out|refine bS ?_ GE560.out|refine bS ?_ GE568.out)|exact HB.out))));have n4_:=Am (blk_below (bB BK552.out) hb);have n5_:=Am (blk_below (bB BK560.out) hb);have n6_:=Am (blk_below (bB BK568.out) hb);have n7_:=Am (bT (by repeat (first|(with_reducible first|exact HB.out|apply bA|apply bN|apply bD|refine bS ?_ GE552.out|refine bS ?_ GE560.out|refine bS ?_ GE568.out)|exact HB.out)) hb);clear HO_553001 HO_561001 HO_569001 BK552 BK560 BK568 HB;have HO_553001:=n0_;have HO_561001:=n1_;have HO_569001:=n2_;have HO575:=n3_;have BK552:=n4_;have BK560:=n5_;have BK568:=n6_;have HB:=n7_;clear n0_ n1_ n2_ n3_ n4_ n5_ n6_ n7_;(try clear hb);(try clear ho0))|((with_reducible refine gate_dst (N:=9) rfl ?_);(try (refine gate_guard (by rfl) ?_;dsimp only));refine box_event ?hg (N:=9) ?hd (cs:=#[.string (⟨#[]⟩:ByteArray), .slice none 0 0, .bool false, .string (⟨#[]⟩:ByteArray)]) (t:=25) ?hr ?_;(case hd=>rfl);(case hg=>rfl);(case hr=>(go_simp <;> rfl));intro gb579 hg w70 hbox hb;have n0_:=bH HO_553001 hb;have n1_:=bH HO_561001 hb;have n2_:=bH HO_569001 hb;have n3_:=bH HO575 hb;have n4_:=Am (blk_below (bB BK552.out) hb);have n5_:=Am (blk_below (bB BK560.out) hb);have n6_:=Am (blk_below (bB BK568.out) hb);have n7_:=Am (bT (by repeat (first|(with_reducible first|exact HB.out|apply bA|apply bN|apply bD|refine bS ?_ GE552.out|refine bS ?_ GE560.out|refine bS ?_ GE568.out)|exact HB.out)) hb);have n8_:=Am (hbox);have n9_:=Am ((by rw [hg];exact (bU (by repeat (first|(with_reducible first|exact HB.out|apply bA|apply bN|apply bD|refine bS ?_ GE552.out|refine bS ?_ GE560.out|refine bS ?_ GE568.out)|exact HB.out))):w.heap.size ≤ gb579));have n10_:=n9_;have n11_:=Am ((by rw [hg];exact Nat.ne_of_lt (blk_lt (bB BK552.out)):gb552 ≠ gb579));have n12_:=Am ((by rw [hg];exact Nat.ne_of_gt (blk_lt (bB BK552.out)):gb579 ≠ gb552));have n13_:=Am ((by rw [hg];exact Nat.ne_of_lt (blk_lt (bB BK560.out)):gb560 ≠ gb579));have n14_:=Am ((by rw [hg];exact Nat.ne_of_gt (blk_lt (bB BK560.out)):gb579 ≠ gb560));have n15_:=Am ((by rw [hg];exact Nat.ne_of_lt (blk_lt (bB BK568.out)):gb568 ≠ gb579));have n16_:=Am ((by rw [hg];exact Nat.ne_of_gt (blk_lt (bB BK568.out)):gb579 ≠ gb568));clear HO_553001 HO_561001 HO_569001 HO575 BK552 BK560 BK568 HB;have HO_553001:=n0_;have HO_561001:=n1_;have HO_569001:=n2_;have HO575:=n3_;have BK552:=n4_;have BK560:=n5_;have BK568:=n6_;have HB:=n7_;have BK579:=n8_;have GW579:=n9_;have GE579:=n10_;have NB552_579:=n11_;have NB579_552:=n12_;have NB560_579:=n13_;have NB579_560:=n14_;have NB568_579:=n15_;have NB579_568:=n16_;clear n0_ n1_ n2_ n3_ n4_ n5_ n6_ n7_ n8_ n9_ n10_ n11_ n12_ n13_ n14_ n15_ n16_ hb hbox hg;have hnb71:=NB579_552.out;have hnc71:=NB552_579.out;have hnb72:=NB579_560.out;have hnc72:=NB560_579.out;have hnb73:=NB579_568.out;have hnc73:=NB568_579.out;obtain ⟨hcz74_0,hcz74_1,hcz74_2,hcz74_3,hfz74_0,hfz74_1,hfz74_2,hfz74_3⟩:=bX BK579.out;obtain ⟨Ao75,co75,eo75⟩:=Kd.R_slice HO575.out;subst eo75;obtain ⟨hcz76_0,hcz76_1,hcz76_2,hcz76_3,hfz76_0,hfz76_1,hfz76_2,hfz76_3⟩:=bX BK552.out)|((with_reducible refine gate_callee (f:=13) rfl ?_);refine goesL_ (some 69) rfl rfl Tryd.func13 (by kernel_rfl) rfl #[.agg #[.string t545, .slice Ao10 t546.length co10, .bool t549, .string t550], .string (⟨#[46,47,119,47,46,46,47,113]⟩:ByteArray)] rfl (aE2 rfl rfl) ?_;(with_reducible refine (impl_AddrJoin.calls kj5 t545 _ _ t546 t549 t550 (⟨#[46,47,119,47,46,46,47,113]⟩:ByteArray) t580 t581 t584 t585 t586 _ ?side1 ?side2 A55.out).mono ?_);(case side1=>refine (Kd.R_reads' (e:=9) (base:=w.heap.size) (ok:=fun k_=>((some k_ ≠ (.slice Ao15 t554.length co15:Value).ownBlock ∧ some k_ ≠ (.slice Ao22 t562.length co22:Value).ownBlock) ∧ some k_ ≠ (.slice Ao75 t573.length co75:Value).ownBlock)) (n:=t546.length) (c:=co10) ?_).2.2;exact (by (with_reducible repeat (first|apply rA|apply rN|apply rD));exact (bQ HO_553001.out BK579.out (by decide) _ _ _ _)));(case side2=>exact (Kd.R_reads' HO_553001.out).2.1);rintro e w77 ⟨v582,rfl,ho0,hb⟩;refine ⟨_,rfl,?_⟩;have n0_:=Am (Kd.R_elder' (by (with_reducible repeat (first|apply rA|apply rN|apply rD));exact (bQ HO_553001.out BK579.out (by decide) _ _ _ _)) (Kd.R_base ho0) hb);have n1_:=Am (Kd.R_elder' (by (with_reducible repeat (first|apply rA|apply rN|apply rD));exact (bQ HO_561001.out BK579.out (by decide) _ _ _ _)) (Kd.R_base ho0) hb);have n2_:=Am (Kd.R_elder' (by (with_reducible repeat (first|apply rA|apply rN|apply rD));exact (bQ HO_569001.out BK579.out (by decide) _ _ _ _)) (Kd.R_base ho0) hb);have n3_:=Am (Kd.R_elder' (by (with_reducible repeat (first|apply rA|apply rN|apply rD));exact (bQ HO575.out BK579.out (by decide) _ _ _ _)) (Kd.R_base ho0) hb);have n4_:=Am (Kd.R_lower (Kd.R_new' (Kd.R_new' (Kd.R_new' (Kd.R_new' ho0 (Kd.R_lt (by (with_reducible repeat (first|apply rA|apply rN|apply rD));exact (bQ HO_553001.out BK579.out (by decide) _ _ _ _)))) (Kd.R_lt (by (with_reducible repeat (first|apply rA|apply rN|apply rD));exact (bQ HO_561001.out BK579.out (by decide) _ _ _ _)))) (Kd.R_lt (by (with_reducible repeat (first|apply rA|apply rN|apply rD));exact (bQ HO_569001.out BK579.out (by decide) _ _ _ _)))) (Kd.R_lt (by (with_reducible repeat (first|apply rA|apply rN|apply rD));exact (bQ HO575.out BK579.out (by decide) _ _ _ _)))) (bU (by repeat (first|(with_reducible first|exact HB.out|apply bA|apply bN|apply bD|refine bS ?_ GE552.out|refine bS ?_ GE560.out|refine bS ?_ GE568.out|refine bS ?_ GE579.out)|exact HB.out))));have n5_:=Am (blk_below (g:=gb552) (o:=.cells #[.string t545, .slice Ao10 t546.length co10, .bool t549, .string t550] 25 (0,0)) (by refine bB ?_;refine bF ?_ NB552_579.out;refine bB ?_;exact BK552.out) hb);have n6_:=Am (blk_below (g:=gb560) (o:=.cells #[.string t553, .slice Ao15 t554.length co15, .bool t557, .string t558] 25 (0,0)) (by refine bB ?_;refine bF ?_ NB560_579.out;refine bB ?_;exact BK560.out) hb);have n7_:=Am (blk_below (g:=gb568) (o:=.cells #[.string t561, .slice Ao22 t562.length co22, .bool t565, .string t566] 25 (0,0)) (by refine bB ?_;refine bF ?_ NB568_579.out;refine bB ?_;exact BK568.out) hb);have n8_:=Am (blk_below (g:=gb579) (o:=.cells #[.string t572, .slice Ao75 t573.length co75, .bool t576, .string t577] 25 (0,0)) (by refine bB ?_;apply bP;refine bB ?_;exact BK579.out) hb);have n9_:=Am (bT (by repeat (first|(with_reducible first|exact HB.out|apply bA|apply bN|apply bD|refine bS ?_ GE552.out|refine bS ?_ GE560.out|refine bS ?_ GE568.out|refine bS ?_ GE579.out)|exact HB.out)) hb);clear HO_553001 HO_561001 HO_569001 HO575 BK552 BK560 BK568 BK579 HB;have HO_553001:=n0_;have HO_561001:=n1_;have HO_569001:=n2_;have HO575:=n3_;have HO583:=n4_;have BK552:=n5_;have BK560:=n6_;have BK568:=n7_;have BK579:=n8_;have HB:=n9_;clear n0_ n1_ n2_ n3_ n4_ n5_ n6_ n7_ n8_ n9_;(try clear hb);(try clear ho0))|((with_reducible refine gate_dst (N:=11) rfl ?_);(try (refine gate_guard (by rfl) ?_;dsimp only));refine box_event ?hg (N:=11) ?hd (cs:=#[.string (⟨#[]⟩:ByteArray), .slice none 0 0, .bool false, .string (⟨#[]⟩:ByteArray)]) (t:=25) ?hr ?_;(case hd=>rfl);(case hg=>rfl);(case hr=>(go_simp <;> rfl));intro gb587 hg w78 hbox hb;have n0_:=bH HO_553001 hb;have n1_:=bH HO_561001 hb;have n2_:=bH HO_569001 hb;have n3_:=bH HO575 hb;have n4_:=bH HO583 hb;have n5_:=Am (blk_below (bB BK552.out) hb);have n6_:=Am (blk_below (bB BK560.out) hb);have n7_:=Am (blk_below (bB BK568.out) hb);have n8_:=Am (blk_below (bB BK579.out) hb);have n9_:=Am (bT (by repeat (first|(with_reducible first|exact HB.out|apply bA|apply bN|apply bD|refine bS ?_ GE552.out|refine bS ?_ GE560.out|refine bS ?_ GE568.out|refine bS ?_ GE579.out)|exact HB.out)) hb);have n10_:=Am (hbox);have n11_:=Am ((by rw [hg];exact (bU (by repeat (first|(with_reducible first|exact HB.out|apply bA|apply bN|apply bD|refine bS ?_ GE552.out|refine bS ?_ GE560.out|refine bS ?_ GE568.out|refine bS ?_ GE579.out)|exact HB.out))):w.heap.size ≤ gb587));have n12_:=n11_;have n13_:=Am ((by rw [hg];exact Nat.ne_of_lt (blk_lt (bB BK552.out)):gb552 ≠ gb587));have n14_:=Am ((by rw [hg];exact Nat.ne_of_gt (blk_lt (bB BK552.out)):gb587 ≠ gb552));have n15_:=Am ((by rw [hg];exact Nat.ne_of_lt (blk_lt (bB BK560.out)):gb560 ≠ gb587));have n16_:=Am ((by rw [hg];exact Nat.ne_of_gt (blk_lt (bB BK560.out)):gb587 ≠ gb560));have n17_:=Am ((by rw [hg];exact Nat.ne_of_lt (blk_lt (bB BK568.out)):gb568 ≠ gb587));have n18_:=Am ((by rw [hg];exact Nat.ne_of_gt (blk_lt (bB BK568.out)):gb587 ≠ gb568));have n19_:=Am ((by rw [hg];exact Nat.ne_of_lt (blk_lt (bB BK579.out)):gb579 ≠ gb587));have n20_:=Am ((by rw [hg];exact Nat.ne_of_gt (blk_lt (bB BK579.out)):gb587 ≠ gb579));clear HO_553001 HO_561001 HO_569001 HO575 HO583 BK552 BK560 BK568 BK579 HB;have HO_553001:=n0_;have HO_561001:=n1_;have HO_569001:=n2_;have HO575:=n3_;have HO583:=n4_;have BK552:=n5_;have BK560:=n6_;have BK568:=n7_;have BK579:=n8_;have HB:=n9_;have BK587:=n10_;have GW587:=n11_;have GE587:=n12_;have NB552_587:=n13_;have NB587_552:=n14_;have NB560_587:=n15_;have NB587_560:=n16_;have NB568_587:=n17_;have NB587_568:=n18_;have NB579_587:=n19_;have NB587_579:=n20_;clear n0_ n1_ n2_ n3_ n4_ n5_ n6_ n7_ n8_ n9_ n10_ n11_ n12_ n13_ n14_ n15_ n16_ n17_ n18_ n19_ n20_ hb hbox hg;have hnb79:=NB587_552.out;have hnc79:=NB552_587.out;have hnb80:=NB587_560.out;have hnc80:=NB560_587.out;have hnb81:=NB587_568.out;have hnc81:=NB568_587.out;have hnb82:=NB587_579.out;have hnc82:=NB579_587.out;obtain ⟨hcz83_0,hcz83_1,hcz83_2,hcz83_3,hfz83_0,hfz83_1,hfz83_2,hfz83_3⟩:=bX BK587.out;obtain ⟨Ao84,co84,eo84⟩:=Kd.R_slice HO583.out;subst eo84)|((with_reducible refine gate_dst (N:=72) rfl ?_);(try (refine gate_guard (by rfl) ?_;dsimp only));refine Kd.R_lit Kd.string _ 9 ?hg (N:=72) ?hd (xs:=([]:List ByteArray)) (inner:=[]) (ok:=fun _=>True) (okp:=fun _=>True) ?hr ?hp (fun _ hk=>hk) trivial (Below.refl _ _) (Nat.le_refl _) (by simp) ?_;(case hd=>rfl);(case hg=>rfl);(case hr=>(go_simp <;> rfl));(case hp=>exact (Reps.none _ _));intro v589 w85 ho86 hb hg_ hnew_;clear hg_ hnew_;(first|rw [← Ny588.out] at ho86|(simp only [Int.reduceToNat] at ho86;rw [← Ny588.out] at ho86));have n0_:=Am (Kd.R_elder' (by (with_reducible repeat (first|apply rA|apply rN|apply rD));exact (bQ HO_553001.out BK587.out (by decide) _ _ _ _)) (Kd.R_base ho86) hb);have n1_:=Am (Kd.R_elder' (by (with_reducible repeat (first|apply rA|apply rN|apply rD));exact (bQ HO_561001.out BK587.out (by decide) _ _ _ _)) (Kd.R_base ho86) hb);have n2_:=Am (Kd.R_elder' (by (with_reducible repeat (first|apply rA|apply rN|apply rD));exact (bQ HO_569001.out BK587.out (by decide) _ _ _ _)) (Kd.R_base ho86) hb);have n3_:=Am (Kd.R_elder' (by (with_reducible repeat (first|apply rA|apply rN|apply rD));exact (bQ HO575.out BK587.out (by decide) _ _ _ _)) (Kd.R_base ho86) hb);have n4_:=Am (Kd.R_elder' (by (with_reducible repeat (first|apply rA|apply rN|apply rD));exact (bQ HO583.out BK587.out (by decide) _ _ _ _)) (Kd.R_base ho86) hb);have n5_:=Am (Kd.R_lower (Kd.R_new' (Kd.R_new' (Kd.R_new' (Kd.R_new' (Kd.R_new' ho86 (Kd.R_lt (by (with_reducible repeat (first|apply rA|apply rN|apply rD));exact (bQ HO_553001.out BK587.out (by decide) _ _ _ _)))) (Kd.R_lt (by (with_reducible repeat (first|apply rA|apply rN|apply rD));exact (bQ HO_561001.out BK587.out (by decide) _ _ _ _)))) (Kd.R_lt (by (with_reducible repeat (first|apply rA|apply rN|apply rD));exact (bQ HO_569001.out BK587.out (by decide) _ _ _ _)))) (Kd.R_lt (by (with_reducible repeat (first|apply rA|apply rN|apply rD));exact (bQ HO575.out BK587.out (by decide) _ _ _ _)))) (Kd.R_lt (by (with_reducible repeat (first|apply rA|apply rN|apply rD));exact (bQ HO583.out BK587.out (by decide) _ _ _ _)))) (bU (by repeat (first|(with_reducible first|exact HB.out|apply bA|apply bN|apply bD|refine bS ?_ GE552.out|refine bS ?_ GE560.out|refine bS ?_ GE568.out|refine bS ?_ GE579.out|refine bS ?_ GE587.out)|exact HB.out))));have n6_:=Am (blk_below (g:=gb552) (o:=.cells #[.string t545, .slice Ao10 t546.length co10, .bool t549, .string t550] 25 (0,0)) (by refine bB ?_;refine bF ?_ NB552_587.out;refine bB ?_;exact BK552.out) hb);have n7_:=Am (blk_below (g:=gb560) (o:=.cells #[.string t553, .slice Ao15 t554.length co15, .bool t557, .string t558] 25 (0,0)) (by refine bB ?_;refine bF ?_ NB560_587.out;refine bB ?_;exact BK560.out) hb);have n8_:=Am (blk_below (g:=gb568) (o:=.cells #[.string t561, .slice Ao22 t562.length co22, .bool t565, .string t566] 25 (0,0)) (by refine bB ?_;refine bF ?_ NB568_587.out;refine bB ?_;exact BK568.out) hb);have n9_:=Am (blk_below (g:=gb579) (o:=.cells #[.string t572, .slice Ao75 t573.length co75, .bool t576, .string t577] 25 (0,0)) (by refine bB ?_;refine bF ?_ NB579_587.out;refine bB ?_;exact BK579.out) hb);have n10_:=Am (blk_below (g:=gb587) (o:=.cells #[.string t580, .slice Ao84 t581.length co84, .bool t584, .string t585] 25 (0,0)) (by refine bB ?_;apply bP;refine bB ?_;exact BK587.out) hb);have n11_:=Am (bT (by repeat (first|(with_reducible first|exact HB.out|apply bA|apply bN|apply bD|refine bS ?_ GE552.out|refine bS ?_ GE560.out|refine bS ?_ GE568.out|refine bS ?_ GE579.out|refine bS ?_ GE587.out)|exact HB.out)) hb);clear HO_553001 HO_561001 HO_569001 HO575 HO583 BK552 BK560 BK568 BK579 BK587 HB;have HO_553001:=n0_;have HO_561001:=n1_;have HO_569001:=n2_;have HO575:=n3_;have HO583:=n4_;have HO590:=n5_;have BK552:=n6_;have BK560:=n7_;have BK568:=n8_;have BK579:=n9_;have BK587:=n10_;have HB:=n11_;clear n0_ n1_ n2_ n3_ n4_ n5_ n6_ n7_ n8_ n9_ n10_ n11_ hb ho86;obtain ⟨hcz87_0,hcz87_1,hcz87_2,hcz87_3,hfz87_0,hfz87_1,hfz87_2,hfz87_3⟩:=bX BK552.out;have q88:((ji56):Int) ≤ ((t546.length:Int):Int):=oD (by assumption);obtain ⟨i088,hi088,_,hsz88,_⟩:=info_parts info9;have hroom88:t546.length ≤ co10:=(Kd.R_reads' HO_553001.out).2.1;have hC88:Kd.C Kd.string _ Ao10 t546.length t546:=(Kd.R_reads' HO_553001.out).2.2;have hcut88:=cut_to (P:=Tryd.prog) 23 9 .i64 Tryd.underlying23 hi088 Ao10 t546.length co10 (ji56) (oD (by assumption)) q88 hroom88;have hr88:=Kd.C_take (m:=((ji56):Int).toNat) hC88 (by omega);have hy88:y591.length = ((ji56):Int).toNat:=(by rw [Ny591.out,List.length_take];omega);rw [← Ny591.out] at hr88;rw [← hy88] at hcut88;have HR594:=Am hr88;have HC594:=Am (show y591.length ≤ co10 from by omega);clear hr88 hC88 hroom88 hi088 hsz88;have KY88:=Am hy88;clear hy88;have KL88:=Am (show ((ji56):Int).toNat ≤ t546.length from by omega);replace q88:=eq_true q88)|((with_reducible refine gate_builtin (b:=.append) (xs:=#[.tmp 72, .tmp 79]) rfl ?_);(try (refine gate_guard (by rfl) ?_;dsimp only));at_builtin;refine Kd.R_append_rows Kd.string (w0:=w) w.heap.size rfl (.tmp 72) (.tmp 79) 23 9 (.string ⟨#[]⟩) 16 rfl Tryd.underlying23 info9 rfl (by decide) (by omega) v589 y588 y591 _ _ _ (fun k_=>some k_ ≠ (.slice Ao10 t546.length co10:Value).ownBlock ∧ some k_ ≠ (.slice Ao15 t554.length co15:Value).ownBlock ∧ some k_ ≠ (.slice Ao22 t562.length co22:Value).ownBlock ∧ some k_ ≠ (.slice Ao75 t573.length co75:Value).ownBlock ∧ some k_ ≠ (.slice Ao84 t581.length co84:Value).ownBlock) (fun _=>False) rfl rfl ?aO ?aR (fun _ _ h=>h) (fun _ h=>h.elim) ?aF ?aB ?aS ?aL ?_;(case aR=>repeat (first|exact (by repeat (first|(with_reducible exact HR594.out)|(with_reducible refine bC ?_)|exact HR594.out))|(with_reducible refine bC ?_)));(case aB=>exact (by repeat (first|(with_reducible first|exact HB.out|apply bA|apply bN|apply bD|refine bS ?_ GE552.out|refine bS ?_ GE560.out|refine bS ?_ GE568.out|refine bS ?_ GE579.out|refine bS ?_ GE587.out)|exact HB.out)));(case aF=>exact (fun k_ hk=>⟨Kd.fresh' (Kd.R_lt (bR HO_553001.out)) k_ hk,Kd.fresh' (Kd.R_lt (bR HO_561001.out)) k_ hk,Kd.fresh' (Kd.R_lt (bR HO_569001.out)) k_ hk,Kd.fresh' (Kd.R_lt (bR HO575.out)) k_ hk,Kd.fresh' (Kd.R_lt (bR HO583.out)) k_ hk⟩));(case aO=>exact (by (with_reducible repeat (first|apply rA|apply rN|apply rD));exact Kd.R_mono HO590.out (fun _ hk=>⟨hk.1.1.1.1.2,⟨hk.1.1.1.2,⟨hk.1.1.2,⟨hk.1.2,hk.2⟩⟩⟩⟩)));(case aS=>exact (bU (by repeat (first|(with_reducible first|exact HB.out|apply bA|apply bN|apply bD|refine bS ?_ GE552.out|refine bS ?_ GE560.out|refine bS ?_ GE568.out|refine bS ?_ GE579.out|refine bS ?_ GE587.out)|exact HB.out))));(case aL=>have:=LMc59.out;omega);intro v596 w89 ho hb hg hat;rw [← Ny595.out] at ho;have n0_:=Am (Kd.R_after (ok:=(fun k_=>some k_ ≠ (.slice Ao15 t554.length co15:Value).ownBlock ∧ some k_ ≠ (.slice Ao22 t562.length co22:Value).ownBlock ∧ some k_ ≠ (.slice Ao75 t573.length co75:Value).ownBlock ∧ some k_ ≠ (.slice Ao84 t581.length co84:Value).ownBlock)) (by (with_reducible repeat (first|apply rA|apply rN|apply rD));exact Kd.R_mono HO_553001.out (fun _ hk=>⟨⟨hk.1.1.1.1,⟨hk.1.1.1.2,⟨hk.1.1.2,hk.1.2⟩⟩⟩,hk.2⟩)) hg hat);have n1_:=Am (Kd.R_after (ok:=(fun k_=>some k_ ≠ (.slice Ao10 t546.length co10:Value).ownBlock ∧ some k_ ≠ (.slice Ao22 t562.length co22:Value).ownBlock ∧ some k_ ≠ (.slice Ao75 t573.length co75:Value).ownBlock ∧ some k_ ≠ (.slice Ao84 t581.length co84:Value).ownBlock)) (by (with_reducible repeat (first|apply rA|apply rN|apply rD));exact Kd.R_mono HO_561001.out (fun _ hk=>⟨⟨hk.1.1.1.1,⟨hk.1.1.1.2,⟨hk.1.1.2,hk.1.2⟩⟩⟩,hk.2⟩)) hg hat);have n2_:=Am (Kd.R_after (ok:=(fun k_=>some k_ ≠ (.slice Ao10 t546.length co10:Value).ownBlock ∧ some k_ ≠ (.slice Ao15 t554.length co15:Value).ownBlock ∧ some k_ ≠ (.slice Ao75 t573.length co75:Value).ownBlock ∧ some k_ ≠ (.slice Ao84 t581.length co84:Value).ownBlock)) (by (with_reducible repeat (first|apply rA|apply rN|apply rD));exact Kd.R_mono HO_569001.out (fun _ hk=>⟨⟨hk.1.1.1.1,⟨hk.1.1.1.2,⟨hk.1.1.2,hk.1.2⟩⟩⟩,hk.2⟩)) hg hat);have n3_:=Am (blk_grown (bB BK552.out) hg (Kd.R_ne HO590.out BK552.out (by decide)));have n4_:=Am (blk_grown (bB BK560.out) hg (Kd.R_ne HO590.out BK560.out (by decide)));have n5_:=Am (blk_grown (bB BK568.out) hg (Kd.R_ne HO590.out BK568.out (by decide)));have n6_:=Am (Kd.R_after (ok:=(fun k_=>some k_ ≠ (.slice Ao10 t546.length co10:Value).ownBlock ∧ some k_ ≠ (.slice Ao15 t554.length co15:Value).ownBlock ∧ some k_ ≠ (.slice Ao22 t562.length co22:Value).ownBlock ∧ some k_ ≠ (.slice Ao84 t581.length co84:Value).ownBlock)) (by (with_reducible repeat (first|apply rA|apply rN|apply rD));exact Kd.R_mono HO575.out (fun _ hk=>⟨⟨hk.1.1.1.1.2,⟨hk.1.1.1.2,⟨hk.1.1.2,hk.1.2⟩⟩⟩,hk.2⟩)) hg hat);have n7_:=Am (blk_grown (bB BK579.out) hg (Kd.R_ne HO590.out BK579.out (by decide)));have n8_:=Am (Kd.R_after (ok:=(fun k_=>some k_ ≠ (.slice Ao10 t546.length co10:Value).ownBlock ∧ some k_ ≠ (.slice Ao15 t554.length co15:Value).ownBlock ∧ some k_ ≠ (.slice Ao22 t562.length co22:Value).ownBlock ∧ some k_ ≠ (.slice Ao75 t573.length co75:Value).ownBlock)) (by (with_reducible repeat (first|apply rA|apply rN|apply rD));exact Kd.R_mono HO583.out (fun _ hk=>⟨⟨hk.1.1.1.1.2,⟨hk.1.1.1.2,⟨hk.1.1.2,hk.1.2⟩⟩⟩,hk.2⟩)) hg hat);have n9_:=Am (blk_grown (bB BK587.out) hg (Kd.R_ne HO590.out BK587.out (by decide)));have n10_:=Am (hb);have n11_:=Am ((show Kd.C Kd.string w89 Ao10 y591.length y591 from by rw [Ny591.out];exact Kd.C_take (m:=((ji56):Int).toNat) ((Kd.R_reads' (Kd.R_after (ok:=(fun k_=>some k_ ≠ (.slice Ao15 t554.length co15:Value).ownBlock ∧ some k_ ≠ (.slice Ao22 t562.length co22:Value).ownBlock ∧ some k_ ≠ (.slice Ao75 t573.length co75:Value).ownBlock ∧ some k_ ≠ (.slice Ao84 t581.length co84:Value).ownBlock)) (by (with_reducible repeat (first|apply rA|apply rN|apply rD));exact Kd.R_mono HO_553001.out (fun _ hk=>⟨⟨hk.1.1.1.1,⟨hk.1.1.1.2,⟨hk.1.1.2,hk.1.2⟩⟩⟩,hk.2⟩)) hg hat)).2.2) KL88.out));have n12_:=Am (ho);clear HO_553001 HO_561001 HO_569001 BK552 BK560 BK568 HO575 BK579 HO583 BK587 HB HR594 HO590;have HO_553001:=n0_;have HO_561001:=n1_;have HO_569001:=n2_;have BK552:=n3_;have BK560:=n4_;have BK568:=n5_;have HO575:=n6_;have BK579:=n7_;have HO583:=n8_;have BK587:=n9_;have HB:=n10_;have HR594:=n11_;have HO597:=n12_;clear n0_ n1_ n2_ n3_ n4_ n5_ n6_ n7_ n8_ n9_ n10_ n11_ n12_ ho hb hg hat)|((with_reducible refine gate_builtin (b:=.append) (xs:=#[.tmp 80, .tmp 81]) rfl ?_);(try (refine gate_guard (by rfl) ?_;dsimp only));at_builtin;refine Kd.R_append Kd.string (w0:=w) w.heap.size rfl (.tmp 80) (.tmp 81) 23 9 (.string ⟨#[]⟩) 16 rfl Tryd.underlying23 info9 rfl (by decide) (by omega) v596 y595 (⟨#[113]⟩:ByteArray) [.string (⟨#[113]⟩:ByteArray)] (fun k_=>some k_ ≠ (.slice Ao10 t546.length co10:Value).ownBlock ∧ some k_ ≠ (.slice Ao15 t554.length co15:Value).ownBlock ∧ some k_ ≠ (.slice Ao22 t562.length co22:Value).ownBlock ∧ some k_ ≠ (.slice Ao75 t573.length co75:Value).ownBlock ∧ some k_ ≠ (.slice Ao84 t581.length co84:Value).ownBlock) (fun _=>False) rfl rfl ?aP (fun _ hk=>hk.elim) ?aF ?aO ?aB ?aS ?aL ?_;(case aP=>exact rfl);(case aB=>exact (by repeat (first|(with_reducible first|exact HB.out|apply bA|apply bN|apply bD|refine bS ?_ GE552.out|refine bS ?_ GE560.out|refine bS ?_ GE568.out|refine bS ?_ GE579.out|refine bS ?_ GE587.out)|exact HB.out)));(case aF=>exact (fun k_ hk=>⟨Kd.fresh' (Kd.R_lt (bR HO_553001.out)) k_ hk,Kd.fresh' (Kd.R_lt (bR HO_561001.out)) k_ hk,Kd.fresh' (Kd.R_lt (bR HO_569001.out)) k_ hk,Kd.fresh' (Kd.R_lt (bR HO575.out)) k_ hk,Kd.fresh' (Kd.R_lt (bR HO583.out)) k_ hk⟩));(case aO=>exact (bR HO597.out));(case aS=>exact (bU (by repeat (first|(with_reducible first|exact HB.out|apply bA|apply bN|apply bD|refine bS ?_ GE552.out|refine bS ?_ GE560.out|refine bS ?_ GE568.out|refine bS ?_ GE579.out|refine bS ?_ GE587.out)|exact HB.out))));(case aL=>have:=LMc60.out;omega);intro v599 w90 ho hb hg hat;rw [← Ny598.out] at ho;have n0_:=Am (Kd.R_after (ok:=(fun k_=>some k_ ≠ (.slice Ao15 t554.length co15:Value).ownBlock ∧ some k_ ≠ (.slice Ao22 t562.length co22:Value).ownBlock ∧ some k_ ≠ (.slice Ao75 t573.length co75:Value).ownBlock ∧ some k_ ≠ (.slice Ao84 t581.length co84:Value).ownBlock)) (bR HO_553001.out) hg hat);have n1_:=Am (Kd.R_after (ok:=(fun k_=>some k_ ≠ (.slice Ao10 t546.length co10:Value).ownBlock ∧ some k_ ≠ (.slice Ao22 t562.length co22:Value).ownBlock ∧ some k_ ≠ (.slice Ao75 t573.length co75:Value).ownBlock ∧ some k_ ≠ (.slice Ao84 t581.length co84:Value).ownBlock)) (bR HO_561001.out) hg hat);have n2_:=Am (Kd.R_after (ok:=(fun k_=>some k_ ≠ (.slice Ao10 t546.length co10:Value).ownBlock ∧ some k_ ≠ (.slice Ao15 t554.length co15:Value).ownBlock ∧ some k_ ≠ (.slice Ao75 t573.length co75:Value).ownBlock ∧ some k_ ≠ (.slice Ao84 t581.length co84:Value).ownBlock)) (bR HO_569001.out) hg hat);have n3_:=Am (blk_grown (bB BK552.out) hg (Kd.R_ne HO597.out BK552.out (by decide)));have n4_:=Am (blk_grown (bB BK560.out) hg (Kd.R_ne HO597.out BK560.out (by decide)));have n5_:=Am (blk_grown (bB BK568.out) hg (Kd.R_ne HO597.out BK568.out (by decide)));have n6_:=Am (Kd.R_after (ok:=(fun k_=>some k_ ≠ (.slice Ao10 t546.length co10:Value).ownBlock ∧ some k_ ≠ (.slice Ao15 t554.length co15:Value).ownBlock ∧ some k_ ≠ (.slice Ao22 t562.length co22:Value).ownBlock ∧ some k_ ≠ (.slice Ao84 t581.length co84:Value).ownBlock)) (bR HO575.out) hg hat);have n7_:=Am (blk_grown (bB BK579.out) hg (Kd.R_ne HO597.out BK579.out (by decide)));have n8_:=Am (Kd.R_after (ok:=(fun k_=>some k_ ≠ (.slice Ao10 t546.length co10:Value).ownBlock ∧ some k_ ≠ (.slice Ao15 t554.length co15:Value).ownBlock ∧ some k_ ≠ (.slice Ao22 t562.length co22:Value).ownBlock ∧ some k_ ≠ (.slice Ao75 t573.length co75:Value).ownBlock)) (bR HO583.out) hg hat);have n9_:=Am (blk_grown (bB BK587.out) hg (Kd.R_ne HO597.out BK587.out (by decide)));have n10_:=Am (hb);have n11_:=Am ((show Kd.C Kd.string w90 Ao10 y591.length y591 from by rw [Ny591.out];exact Kd.C_take (m:=((ji56):Int).toNat) ((Kd.R_reads' (Kd.R_after (ok:=(fun k_=>some k_ ≠ (.slice Ao15 t554.length co15:Value).ownBlock ∧ some k_ ≠ (.slice Ao22 t562.length co22:Value).ownBlock ∧ some k_ ≠ (.slice Ao75 t573.length co75:Value).ownBlock ∧ some k_ ≠ (.slice Ao84 t581.length co84:Value).ownBlock)) (bR HO_553001.out) hg hat)).2.2) KL88.out));have n12_:=Am (ho);clear HO_553001 HO_561001 HO_569001 BK552 BK560 BK568 HO575 BK579 HO583 BK587 HB HR594 HO597;have HO_553001:=n0_;have HO_561001:=n1_;have HO_569001:=n2_;have BK552:=n3_;have BK560:=n4_;have BK568:=n5_;have HO575:=n6_;have BK579:=n7_;have HO583:=n8_;have BK587:=n9_;have HB:=n10_;have HR594:=n11_;have HO600:=n12_;clear n0_ n1_ n2_ n3_ n4_ n5_ n6_ n7_ n8_ n9_ n10_ n11_ n12_ ho hb hg hat;obtain ⟨hcz91_0,hcz91_1,hcz91_2,hcz91_3,hfz91_0,hfz91_1,hfz91_2,hfz91_3⟩:=bX BK579.out;obtain ⟨hcz92_0,hcz92_1,hcz92_2,hcz92_3,hfz92_0,hfz92_1,hfz92_2,hfz92_3⟩:=bX BK587.out)|(go_at_call 14;(with_reducible refine (laws_lpAddr.calls kj5 t572 _ _ t573 t576 t577 t580 _ _ t581 t584 t585 true _ ?side1 ?side2 ?side3 ?side4 A62.out).mono ?_);(case side1=>repeat (first|exact (Kd.R_reads' HO575.out).2.2|(with_reducible refine bC ?_)));(case side2=>exact (Kd.R_reads' HO575.out).2.1);(case side3=>repeat (first|exact (Kd.R_reads' HO583.out).2.2|(with_reducible refine bC ?_)));(case side4=>exact (Kd.R_reads' HO583.out).2.1);rintro e w93 ⟨rfl,hb⟩;have n0_:=bH HO_553001 hb;have n1_:=bH HO_561001 hb;have n2_:=bH HO_569001 hb;have n3_:=bH HO575 hb;have n4_:=bH HO583 hb;have n5_:=bH HO600 hb;have n6_:=Am (blk_below (bB BK552.out) hb);have n7_:=Am (blk_below (bB BK560.out) hb);have n8_:=Am (blk_below (bB BK568.out) hb);have n9_:=Am (blk_below (bB BK579.out) hb);have n10_:=Am (blk_below (bB BK587.out) hb);have n11_:=Am (Kd.C_below (by repeat (first|(with_reducible exact HR594.out)|(with_reducible refine bC ?_)|exact HR594.out)) hb);have n12_:=Am (bT (by repeat (first|(with_reducible first|exact HB.out|apply bA|apply bN|apply bD|refine bS ?_ GE552.out|refine bS ?_ GE560.out|refine bS ?_ GE568.out|refine bS ?_ GE579.out|refine bS ?_ GE587.out)|exact HB.out)) hb);clear HO_553001 HO_561001 HO_569001 HO575 HO583 HO600 BK552 BK560 BK568 BK579 BK587 HR594 HB;have HO_553001:=n0_;have HO_561001:=n1_;have HO_569001:=n2_;have HO575:=n3_;have HO583:=n4_;have HO600:=n5_;have BK552:=n6_;have BK560:=n7_;have BK568:=n8_;have BK579:=n9_;have BK587:=n10_;have HR594:=n11_;have HB:=n12_;clear n0_ n1_ n2_ n3_ n4_ n5_ n6_ n7_ n8_ n9_ n10_ n11_ n12_;(try clear hb);obtain ⟨hcz94_0,hcz94_1,hcz94_2,hcz94_3,hfz94_0,hfz94_1,hfz94_2,hfz94_3⟩:=bX BK579.out;obtain ⟨hcz95_0,hcz95_1,hcz95_2,hcz95_3,hfz95_0,hfz95_1,hfz95_2,hfz95_3⟩:=bX BK552.out;obtain ⟨Ao96,co96,eo96⟩:=Kd.R_slice HO600.out;subst eo96)|(go_at_call 14;(with_reducible refine (laws_lpAddr.calls kj5 t572 _ _ t573 t576 t577 t545 _ _ y598 false (⟨#[]⟩:ByteArray) t602 _ ?side1 ?side2 ?side3 ?side4 A65.out).mono ?_);(case side1=>repeat (first|exact (Kd.R_reads' HO575.out).2.2|(with_reducible refine bC ?_)));(case side2=>exact (Kd.R_reads' HO575.out).2.1);(case side3=>repeat (first|exact (Kd.R_reads' HO600.out).2.2|(with_reducible refine bC ?_)));(case side4=>exact (Kd.R_reads' HO600.out).2.1);rintro e w97 ⟨rfl,hb⟩;have n0_:=bH HO_553001 hb;have n1_:=bH HO_561001 hb;have n2_:=bH HO_569001 hb;have n3_:=bH HO575 hb;have n4_:=bH HO583 hb;have n5_:=bH HO600 hb;have n6_:=Am (blk_below (bB BK552.out) hb);have n7_:=Am (blk_below (bB BK560.out) hb);have n8_:=Am (blk_below (bB BK568.out) hb);have n9_:=Am (blk_below (bB BK579.out) hb);have n10_:=Am (blk_below (bB BK587.out) hb);have n11_:=Am (Kd.C_below (by repeat (first|(with_reducible exact HR594.out)|(with_reducible refine bC ?_)|exact HR594.out)) hb);have n12_:=Am (bT (by repeat (first|(with_reducible first|exact HB.out|apply bA|apply bN|apply bD|refine bS ?_ GE552.out|refine bS ?_ GE560.out|refine bS ?_ GE568.out|refine bS ?_ GE579.out|refine bS ?_ GE587.out)|exact HB.out)) hb);clear HO_553001 HO_561001 HO_569001 HO575 HO583 HO600 BK552 BK560 BK568 BK579 BK587 HR594 HB;have HO_553001:=n0_;have HO_561001:=n1_;have HO_569001:=n2_;have HO575:=n3_;have HO583:=n4_;have HO600:=n5_;have BK552:=n6_;have BK560:=n7_;have BK568:=n8_;have BK579:=n9_;have BK587:=n10_;have HR594:=n11_;have HB:=n12_;clear n0_ n1_ n2_ n3_ n4_ n5_ n6_ n7_ n8_ n9_ n10_ n11_ n12_;(try clear hb)))
            go_ret
            exact ⟨by first|rfl|(simp <;> rfl)|(simp only [← hji56];first|rfl|(simp <;> rfl))|(simp [*] <;> rfl),by repeat (first|(with_reducible first|exact HB.out|apply bA|apply bN|apply bD|refine bS ?_ GE552.out|refine bS ?_ GE560.out|refine bS ?_ GE568.out|refine bS ?_ GE579.out|refine bS ?_ GE587.out)|exact HB.out)⟩
           ·replace c64:=Bool.eq_false_iff.mpr c64
            subst c64
            have H1:(some true) = some r:=by rw [if_neg (show ¬ (false = true) by decide)] at H;exact H
            clear H
            have H:=H1
            clear H1
            obtain rfl:=Option.some.inj H
            have hnb98:=NB552_560.out
            have hnc98:=NB560_552.out
            have hnb99:=NB552_568.out
            have hnc99:=NB568_552.out
            obtain ⟨hcz100_0,hcz100_1,hcz100_2,hcz100_3,hfz100_0,hfz100_1,hfz100_2,hfz100_3⟩:=bX BK552.out







            go_wp2_with (first|((with_reducible refine gate_callee (f:=13) rfl ?_);refine goesL_ (some 64) rfl rfl Tryd.func13 (by kernel_rfl) rfl #[.agg #[.string t545, .slice Ao10 t546.length co10, .bool t549, .string t550], .string (⟨#[113]⟩:ByteArray)] rfl (aE2 rfl rfl) ?_;(with_reducible refine (impl_AddrJoin.calls kj5 t545 _ _ t546 t549 t550 (⟨#[113]⟩:ByteArray) t572 t573 t576 t577 false _ ?side1 ?side2 A54.out).mono ?_);(case side1=>repeat (first|exact (Kd.R_reads' HO_553001.out).2.2|(with_reducible refine bC ?_)));(case side2=>exact (Kd.R_reads' HO_553001.out).2.1);rintro e w101 ⟨v574,rfl,ho0,hb⟩;refine ⟨_,rfl,?_⟩;have n0_:=Am (Kd.R_elder' (bR HO_553001.out) (Kd.R_base ho0) hb);have n1_:=Am (Kd.R_elder' (bR HO_561001.out) (Kd.R_base ho0) hb);have n2_:=Am (Kd.R_elder' (bR HO_569001.out) (Kd.R_base ho0) hb);have n3_:=Am (Kd.R_lower (Kd.R_new' (Kd.R_new' (Kd.R_new' ho0 (Kd.R_lt (bR HO_553001.out))) (Kd.R_lt (bR HO_561001.out))) (Kd.R_lt (bR HO_569001.out))) (bU (by repeat (first|(with_reducible first|exact HB.out|apply bA|apply bN|apply bD|refine bS ?_ GE552.out|refine bS ?_ GE560.out|refine bS ?_ GE568.out)|exact HB.out))));have n4_:=Am (blk_below (bB BK552.out) hb);have n5_:=Am (blk_below (bB BK560.out) hb);have n6_:=Am (blk_below (bB BK568.out) hb);have n7_:=Am (bT (by repeat (first|(with_reducible first|exact HB.out|apply bA|apply bN|apply bD|refine bS ?_ GE552.out|refine bS ?_ GE560.out|refine bS ?_ GE568.out)|exact HB.out)) hb);clear HO_553001 HO_561001 HO_569001 BK552 BK560 BK568 HB;have HO_553001:=n0_;have HO_561001:=n1_;have HO_569001:=n2_;have HO575:=n3_;have BK552:=n4_;have BK560:=n5_;have BK568:=n6_;have HB:=n7_;clear n0_ n1_ n2_ n3_ n4_ n5_ n6_ n7_;(try clear hb);(try clear ho0))|((with_reducible refine gate_dst (N:=9) rfl ?_);(try (refine gate_guard (by rfl) ?_;dsimp only));refine box_event ?hg (N:=9) ?hd (cs:=#[.string (⟨#[]⟩:ByteArray), .slice none 0 0, .bool false, .string (⟨#[]⟩:ByteArray)]) (t:=25) ?hr ?_;(case hd=>rfl);(case hg=>rfl);(case hr=>(go_simp <;> rfl));intro gb579 hg w102 hbox hb;have n0_:=bH HO_553001 hb;have n1_:=bH HO_561001 hb;have n2_:=bH HO_569001 hb;have n3_:=bH HO575 hb;have n4_:=Am (blk_below (bB BK552.out) hb);have n5_:=Am (blk_below (bB BK560.out) hb);have n6_:=Am (blk_below (bB BK568.out) hb);have n7_:=Am (bT (by repeat (first|(with_reducible first|exact HB.out|apply bA|apply bN|apply bD|refine bS ?_ GE552.out|refine bS ?_ GE560.out|refine bS ?_ GE568.out)|exact HB.out)) hb);have n8_:=Am (hbox);have n9_:=Am ((by rw [hg];exact (bU (by repeat (first|(with_reducible first|exact HB.out|apply bA|apply bN|apply bD|refine bS ?_ GE552.out|refine bS ?_ GE560.out|refine bS ?_ GE568.out)|exact HB.out))):w.heap.size ≤ gb579));have n10_:=n9_;have n11_:=Am ((by rw [hg];exact Nat.ne_of_lt (blk_lt (bB BK552.out)):gb552 ≠ gb579));have n12_:=Am ((by rw [hg];exact Nat.ne_of_gt (blk_lt (bB BK552.out)):gb579 ≠ gb552));have n13_:=Am ((by rw [hg];exact Nat.ne_of_lt (blk_lt (bB BK560.out)):gb560 ≠ gb579));have n14_:=Am ((by rw [hg];exact Nat.ne_of_gt (blk_lt (bB BK560.out)):gb579 ≠ gb560));have n15_:=Am ((by rw [hg];exact Nat.ne_of_lt (blk_lt (bB BK568.out)):gb568 ≠ gb579));have n16_:=Am ((by rw [hg];exact Nat.ne_of_gt (blk_lt (bB BK568.out)):gb579 ≠ gb568));clear HO_553001 HO_561001 HO_569001 HO575 BK552 BK560 BK568 HB;have HO_553001:=n0_;have HO_561001:=n1_;have HO_569001:=n2_;have HO575:=n3_;have BK552:=n4_;have BK560:=n5_;have BK568:=n6_;have HB:=n7_;have BK579:=n8_;have GW579:=n9_;have GE579:=n10_;have NB552_579:=n11_;have NB579_552:=n12_;have NB560_579:=n13_;have NB579_560:=n14_;have NB568_579:=n15_;have NB579_568:=n16_;clear n0_ n1_ n2_ n3_ n4_ n5_ n6_ n7_ n8_ n9_ n10_ n11_ n12_ n13_ n14_ n15_ n16_ hb hbox hg;have hnb103:=NB579_552.out;have hnc103:=NB552_579.out;have hnb104:=NB579_560.out;have hnc104:=NB560_579.out;have hnb105:=NB579_568.out;have hnc105:=NB568_579.out;obtain ⟨hcz106_0,hcz106_1,hcz106_2,hcz106_3,hfz106_0,hfz106_1,hfz106_2,hfz106_3⟩:=bX BK579.out;obtain ⟨Ao107,co107,eo107⟩:=Kd.R_slice HO575.out;subst eo107;obtain ⟨hcz108_0,hcz108_1,hcz108_2,hcz108_3,hfz108_0,hfz108_1,hfz108_2,hfz108_3⟩:=bX BK552.out)|((with_reducible refine gate_callee (f:=13) rfl ?_);refine goesL_ (some 69) rfl rfl Tryd.func13 (by kernel_rfl) rfl #[.agg #[.string t545, .slice Ao10 t546.length co10, .bool t549, .string t550], .string (⟨#[46,47,119,47,46,46,47,113]⟩:ByteArray)] rfl (aE2 rfl rfl) ?_;(with_reducible refine (impl_AddrJoin.calls kj5 t545 _ _ t546 t549 t550 (⟨#[46,47,119,47,46,46,47,113]⟩:ByteArray) t580 t581 t584 t585 t586 _ ?side1 ?side2 A55.out).mono ?_);(case side1=>refine (Kd.R_reads' (e:=9) (base:=w.heap.size) (ok:=fun k_=>((some k_ ≠ (.slice Ao15 t554.length co15:Value).ownBlock ∧ some k_ ≠ (.slice Ao22 t562.length co22:Value).ownBlock) ∧ some k_ ≠ (.slice Ao107 t573.length co107:Value).ownBlock)) (n:=t546.length) (c:=co10) ?_).2.2;exact (by (with_reducible repeat (first|apply rA|apply rN|apply rD));exact (bQ HO_553001.out BK579.out (by decide) _ _ _ _)));(case side2=>exact (Kd.R_reads' HO_553001.out).2.1);rintro e w109 ⟨v582,rfl,ho0,hb⟩;refine ⟨_,rfl,?_⟩;have n0_:=Am (Kd.R_elder' (by (with_reducible repeat (first|apply rA|apply rN|apply rD));exact (bQ HO_553001.out BK579.out (by decide) _ _ _ _)) (Kd.R_base ho0) hb);have n1_:=Am (Kd.R_elder' (by (with_reducible repeat (first|apply rA|apply rN|apply rD));exact (bQ HO_561001.out BK579.out (by decide) _ _ _ _)) (Kd.R_base ho0) hb);have n2_:=Am (Kd.R_elder' (by (with_reducible repeat (first|apply rA|apply rN|apply rD));exact (bQ HO_569001.out BK579.out (by decide) _ _ _ _)) (Kd.R_base ho0) hb);have n3_:=Am (Kd.R_elder' (by (with_reducible repeat (first|apply rA|apply rN|apply rD));exact (bQ HO575.out BK579.out (by decide) _ _ _ _)) (Kd.R_base ho0) hb);have n4_:=Am (Kd.R_lower (Kd.R_new' (Kd.R_new' (Kd.R_new' (Kd.R_new' ho0 (Kd.R_lt (by (with_reducible repeat (first|apply rA|apply rN|apply rD));exact (bQ HO_553001.out BK579.out (by decide) _ _ _ _)))) (Kd.R_lt (by (with_reducible repeat (first|apply rA|apply rN|apply rD));exact (bQ HO_561001.out BK579.out (by decide) _ _ _ _)))) (Kd.R_lt (by (with_reducible repeat (first|apply rA|apply rN|apply rD));exact (bQ HO_569001.out BK579.out (by decide) _ _ _ _)))) (Kd.R_lt (by (with_reducible repeat (first|apply rA|apply rN|apply rD));exact (bQ HO575.out BK579.out (by decide) _ _ _ _)))) (bU (by repeat (first|(with_reducible first|exact HB.out|apply bA|apply bN|apply bD|refine bS ?_ GE552.out|refine bS ?_ GE560.out|refine bS ?_ GE568.out|refine bS ?_ GE579.out)|exact HB.out))));have n5_:=Am (blk_below (g:=gb552) (o:=.cells #[.string t545, .slice Ao10 t546.length co10, .bool t549, .string t550] 25 (0,0)) (by refine bB ?_;refine bF ?_ NB552_579.out;refine bB ?_;exact BK552.out) hb);have n6_:=Am (blk_below (g:=gb560) (o:=.cells #[.string t553, .slice Ao15 t554.length co15, .bool t557, .string t558] 25 (0,0)) (by refine bB ?_;refine bF ?_ NB560_579.out;refine bB ?_;exact BK560.out) hb);have n7_:=Am (blk_below (g:=gb568) (o:=.cells #[.string t561, .slice Ao22 t562.length co22, .bool t565, .string t566] 25 (0,0)) (by refine bB ?_;refine bF ?_ NB568_579.out;refine bB ?_;exact BK568.out) hb);have n8_:=Am (blk_below (g:=gb579) (o:=.cells #[.string t572, .slice Ao107 t573.length co107, .bool t576, .string t577] 25 (0,0)) (by refine bB ?_;apply bP;refine bB ?_;exact BK579.out) hb);have n9_:=Am (bT (by repeat (first|(with_reducible first|exact HB.out|apply bA|apply bN|apply bD|refine bS ?_ GE552.out|refine bS ?_ GE560.out|refine bS ?_ GE568.out|refine bS ?_ GE579.out)|exact HB.out)) hb);clear HO_553001 HO_561001 HO_569001 HO575 BK552 BK560 BK568 BK579 HB;have HO_553001:=n0_;have HO_561001:=n1_;have HO_569001:=n2_;have HO575:=n3_;have HO583:=n4_;have BK552:=n5_;have BK560:=n6_;have BK568:=n7_;have BK579:=n8_;have HB:=n9_;clear n0_ n1_ n2_ n3_ n4_ n5_ n6_ n7_ n8_ n9_;(try clear hb);(try clear ho0))|((with_reducible refine gate_dst (N:=11) rfl ?_);(try (refine gate_guard (by rfl) ?_;dsimp only));refine box_event ?hg (N:=11) ?hd (cs:=#[.string (⟨#[]⟩:ByteArray), .slice none 0 0, .bool false, .string (⟨#[]⟩:ByteArray)]) (t:=25) ?hr ?_;(case hd=>rfl);(case hg=>rfl);(case hr=>(go_simp <;> rfl));intro gb587 hg w110 hbox hb;have n0_:=bH HO_553001 hb;have n1_:=bH HO_561001 hb;have n2_:=bH HO_569001 hb;have n3_:=bH HO575 hb;have n4_:=bH HO583 hb;have n5_:=Am (blk_below (bB BK552.out) hb);have n6_:=Am (blk_below (bB BK560.out) hb);have n7_:=Am (blk_below (bB BK568.out) hb);have n8_:=Am (blk_below (bB BK579.out) hb);have n9_:=Am (bT (by repeat (first|(with_reducible first|exact HB.out|apply bA|apply bN|apply bD|refine bS ?_ GE552.out|refine bS ?_ GE560.out|refine bS ?_ GE568.out|refine bS ?_ GE579.out)|exact HB.out)) hb);have n10_:=Am (hbox);have n11_:=Am ((by rw [hg];exact (bU (by repeat (first|(with_reducible first|exact HB.out|apply bA|apply bN|apply bD|refine bS ?_ GE552.out|refine bS ?_ GE560.out|refine bS ?_ GE568.out|refine bS ?_ GE579.out)|exact HB.out))):w.heap.size ≤ gb587));have n12_:=n11_;have n13_:=Am ((by rw [hg];exact Nat.ne_of_lt (blk_lt (bB BK552.out)):gb552 ≠ gb587));have n14_:=Am ((by rw [hg];exact Nat.ne_of_gt (blk_lt (bB BK552.out)):gb587 ≠ gb552));have n15_:=Am ((by rw [hg];exact Nat.ne_of_lt (blk_lt (bB BK560.out)):gb560 ≠ gb587));have n16_:=Am ((by rw [hg];exact Nat.ne_of_gt (blk_lt (bB BK560.out)):gb587 ≠ gb560));have n17_:=Am ((by rw [hg];exact Nat.ne_of_lt (blk_lt (bB BK568.out)):gb568 ≠ gb587));have n18_:=Am ((by rw [hg];exact Nat.ne_of_gt (blk_lt (bB BK568.out)):gb587 ≠ gb568));have n19_:=Am ((by rw [hg];exact Nat.ne_of_lt (blk_lt (bB BK579.out)):gb579 ≠ gb587));have n20_:=Am ((by rw [hg];exact Nat.ne_of_gt (blk_lt (bB BK579.out)):gb587 ≠ gb579));clear HO_553001 HO_561001 HO_569001 HO575 HO583 BK552 BK560 BK568 BK579 HB;have HO_553001:=n0_;have HO_561001:=n1_;have HO_569001:=n2_;have HO575:=n3_;have HO583:=n4_;have BK552:=n5_;have BK560:=n6_;have BK568:=n7_;have BK579:=n8_;have HB:=n9_;have BK587:=n10_;have GW587:=n11_;have GE587:=n12_;have NB552_587:=n13_;have NB587_552:=n14_;have NB560_587:=n15_;have NB587_560:=n16_;have NB568_587:=n17_;have NB587_568:=n18_;have NB579_587:=n19_;have NB587_579:=n20_;clear n0_ n1_ n2_ n3_ n4_ n5_ n6_ n7_ n8_ n9_ n10_ n11_ n12_ n13_ n14_ n15_ n16_ n17_ n18_ n19_ n20_ hb hbox hg;have hnb111:=NB587_552.out;have hnc111:=NB552_587.out;have hnb112:=NB587_560.out;have hnc112:=NB560_587.out;have hnb113:=NB587_568.out;have hnc113:=NB568_587.out;have hnb114:=NB587_579.out;have hnc114:=NB579_587.out;obtain ⟨hcz115_0,hcz115_1,hcz115_2,hcz115_3,hfz115_0,hfz115_1,hfz115_2,hfz115_3⟩:=bX BK587.out;obtain ⟨Ao116,co116,eo116⟩:=Kd.R_slice HO583.out;subst eo116)|((with_reducible refine gate_dst (N:=72) rfl ?_);(try (refine gate_guard (by rfl) ?_;dsimp only));refine Kd.R_lit Kd.string _ 9 ?hg (N:=72) ?hd (xs:=([]:List ByteArray)) (inner:=[]) (ok:=fun _=>True) (okp:=fun _=>True) ?hr ?hp (fun _ hk=>hk) trivial (Below.refl _ _) (Nat.le_refl _) (by simp) ?_;(case hd=>rfl);(case hg=>rfl);(case hr=>(go_simp <;> rfl));(case hp=>exact (Reps.none _ _));intro v589 w117 ho118 hb hg_ hnew_;clear hg_ hnew_;(first|rw [← Ny588.out] at ho118|(simp only [Int.reduceToNat] at ho118;rw [← Ny588.out] at ho118));have n0_:=Am (Kd.R_elder' (by (with_reducible repeat (first|apply rA|apply rN|apply rD));exact (bQ HO_553001.out BK587.out (by decide) _ _ _ _)) (Kd.R_base ho118) hb);have n1_:=Am (Kd.R_elder' (by (with_reducible repeat (first|apply rA|apply rN|apply rD));exact (bQ HO_561001.out BK587.out (by decide) _ _ _ _)) (Kd.R_base ho118) hb);have n2_:=Am (Kd.R_elder' (by (with_reducible repeat (first|apply rA|apply rN|apply rD));exact (bQ HO_569001.out BK587.out (by decide) _ _ _ _)) (Kd.R_base ho118) hb);have n3_:=Am (Kd.R_elder' (by (with_reducible repeat (first|apply rA|apply rN|apply rD));exact (bQ HO575.out BK587.out (by decide) _ _ _ _)) (Kd.R_base ho118) hb);have n4_:=Am (Kd.R_elder' (by (with_reducible repeat (first|apply rA|apply rN|apply rD));exact (bQ HO583.out BK587.out (by decide) _ _ _ _)) (Kd.R_base ho118) hb);have n5_:=Am (Kd.R_lower (Kd.R_new' (Kd.R_new' (Kd.R_new' (Kd.R_new' (Kd.R_new' ho118 (Kd.R_lt (by (with_reducible repeat (first|apply rA|apply rN|apply rD));exact (bQ HO_553001.out BK587.out (by decide) _ _ _ _)))) (Kd.R_lt (by (with_reducible repeat (first|apply rA|apply rN|apply rD));exact (bQ HO_561001.out BK587.out (by decide) _ _ _ _)))) (Kd.R_lt (by (with_reducible repeat (first|apply rA|apply rN|apply rD));exact (bQ HO_569001.out BK587.out (by decide) _ _ _ _)))) (Kd.R_lt (by (with_reducible repeat (first|apply rA|apply rN|apply rD));exact (bQ HO575.out BK587.out (by decide) _ _ _ _)))) (Kd.R_lt (by (with_reducible repeat (first|apply rA|apply rN|apply rD));exact (bQ HO583.out BK587.out (by decide) _ _ _ _)))) (bU (by repeat (first|(with_reducible first|exact HB.out|apply bA|apply bN|apply bD|refine bS ?_ GE552.out|refine bS ?_ GE560.out|refine bS ?_ GE568.out|refine bS ?_ GE579.out|refine bS ?_ GE587.out)|exact HB.out))));have n6_:=Am (blk_below (g:=gb552) (o:=.cells #[.string t545, .slice Ao10 t546.length co10, .bool t549, .string t550] 25 (0,0)) (by refine bB ?_;refine bF ?_ NB552_587.out;refine bB ?_;exact BK552.out) hb);have n7_:=Am (blk_below (g:=gb560) (o:=.cells #[.string t553, .slice Ao15 t554.length co15, .bool t557, .string t558] 25 (0,0)) (by refine bB ?_;refine bF ?_ NB560_587.out;refine bB ?_;exact BK560.out) hb);have n8_:=Am (blk_below (g:=gb568) (o:=.cells #[.string t561, .slice Ao22 t562.length co22, .bool t565, .string t566] 25 (0,0)) (by refine bB ?_;refine bF ?_ NB568_587.out;refine bB ?_;exact BK568.out) hb);have n9_:=Am (blk_below (g:=gb579) (o:=.cells #[.string t572, .slice Ao107 t573.length co107, .bool t576, .string t577] 25 (0,0)) (by refine bB ?_;refine bF ?_ NB579_587.out;refine bB ?_;exact BK579.out) hb);have n10_:=Am (blk_below (g:=gb587) (o:=.cells #[.string t580, .slice Ao116 t581.length co116, .bool t584, .string t585] 25 (0,0)) (by refine bB ?_;apply bP;refine bB ?_;exact BK587.out) hb);have n11_:=Am (bT (by repeat (first|(with_reducible first|exact HB.out|apply bA|apply bN|apply bD|refine bS ?_ GE552.out|refine bS ?_ GE560.out|refine bS ?_ GE568.out|refine bS ?_ GE579.out|refine bS ?_ GE587.out)|exact HB.out)) hb);clear HO_553001 HO_561001 HO_569001 HO575 HO583 BK552 BK560 BK568 BK579 BK587 HB;have HO_553001:=n0_;have HO_561001:=n1_;have HO_569001:=n2_;have HO575:=n3_;have HO583:=n4_;have HO590:=n5_;have BK552:=n6_;have BK560:=n7_;have BK568:=n8_;have BK579:=n9_;have BK587:=n10_;have HB:=n11_;clear n0_ n1_ n2_ n3_ n4_ n5_ n6_ n7_ n8_ n9_ n10_ n11_ hb ho118;obtain ⟨hcz119_0,hcz119_1,hcz119_2,hcz119_3,hfz119_0,hfz119_1,hfz119_2,hfz119_3⟩:=bX BK552.out;have q120:((ji56):Int) ≤ ((t546.length:Int):Int):=oD (by assumption);obtain ⟨i0120,hi0120,_,hsz120,_⟩:=info_parts info9;have hroom120:t546.length ≤ co10:=(Kd.R_reads' HO_553001.out).2.1;have hC120:Kd.C Kd.string _ Ao10 t546.length t546:=(Kd.R_reads' HO_553001.out).2.2;have hcut120:=cut_to (P:=Tryd.prog) 23 9 .i64 Tryd.underlying23 hi0120 Ao10 t546.length co10 (ji56) (oD (by assumption)) q120 hroom120;have hr120:=Kd.C_take (m:=((ji56):Int).toNat) hC120 (by omega);have hy120:y591.length = ((ji56):Int).toNat:=(by rw [Ny591.out,List.length_take];omega);rw [← Ny591.out] at hr120;rw [← hy120] at hcut120;have HR594:=Am hr120;have HC594:=Am (show y591.length ≤ co10 from by omega);clear hr120 hC120 hroom120 hi0120 hsz120;have KY120:=Am hy120;clear hy120;have KL120:=Am (show ((ji56):Int).toNat ≤ t546.length from by omega);replace q120:=eq_true q120)|((with_reducible refine gate_builtin (b:=.append) (xs:=#[.tmp 72, .tmp 79]) rfl ?_);(try (refine gate_guard (by rfl) ?_;dsimp only));at_builtin;refine Kd.R_append_rows Kd.string (w0:=w) w.heap.size rfl (.tmp 72) (.tmp 79) 23 9 (.string ⟨#[]⟩) 16 rfl Tryd.underlying23 info9 rfl (by decide) (by omega) v589 y588 y591 _ _ _ (fun k_=>some k_ ≠ (.slice Ao10 t546.length co10:Value).ownBlock ∧ some k_ ≠ (.slice Ao15 t554.length co15:Value).ownBlock ∧ some k_ ≠ (.slice Ao22 t562.length co22:Value).ownBlock ∧ some k_ ≠ (.slice Ao107 t573.length co107:Value).ownBlock ∧ some k_ ≠ (.slice Ao116 t581.length co116:Value).ownBlock) (fun _=>False) rfl rfl ?aO ?aR (fun _ _ h=>h) (fun _ h=>h.elim) ?aF ?aB ?aS ?aL ?_;(case aR=>repeat (first|exact (by repeat (first|(with_reducible exact HR594.out)|(with_reducible refine bC ?_)|exact HR594.out))|(with_reducible refine bC ?_)));(case aB=>exact (by repeat (first|(with_reducible first|exact HB.out|apply bA|apply bN|apply bD|refine bS ?_ GE552.out|refine bS ?_ GE560.out|refine bS ?_ GE568.out|refine bS ?_ GE579.out|refine bS ?_ GE587.out)|exact HB.out)));(case aF=>exact (fun k_ hk=>⟨Kd.fresh' (Kd.R_lt (bR HO_553001.out)) k_ hk,Kd.fresh' (Kd.R_lt (bR HO_561001.out)) k_ hk,Kd.fresh' (Kd.R_lt (bR HO_569001.out)) k_ hk,Kd.fresh' (Kd.R_lt (bR HO575.out)) k_ hk,Kd.fresh' (Kd.R_lt (bR HO583.out)) k_ hk⟩));(case aO=>exact (by (with_reducible repeat (first|apply rA|apply rN|apply rD));exact Kd.R_mono HO590.out (fun _ hk=>⟨hk.1.1.1.1.2,⟨hk.1.1.1.2,⟨hk.1.1.2,⟨hk.1.2,hk.2⟩⟩⟩⟩)));(case aS=>exact (bU (by repeat (first|(with_reducible first|exact HB.out|apply bA|apply bN|apply bD|refine bS ?_ GE552.out|refine bS ?_ GE560.out|refine bS ?_ GE568.out|refine bS ?_ GE579.out|refine bS ?_ GE587.out)|exact HB.out))));(case aL=>have:=LMc59.out;omega);intro v596 w121 ho hb hg hat;rw [← Ny595.out] at ho;have n0_:=Am (Kd.R_after (ok:=(fun k_=>some k_ ≠ (.slice Ao15 t554.length co15:Value).ownBlock ∧ some k_ ≠ (.slice Ao22 t562.length co22:Value).ownBlock ∧ some k_ ≠ (.slice Ao107 t573.length co107:Value).ownBlock ∧ some k_ ≠ (.slice Ao116 t581.length co116:Value).ownBlock)) (by (with_reducible repeat (first|apply rA|apply rN|apply rD));exact Kd.R_mono HO_553001.out (fun _ hk=>⟨⟨hk.1.1.1.1,⟨hk.1.1.1.2,⟨hk.1.1.2,hk.1.2⟩⟩⟩,hk.2⟩)) hg hat);have n1_:=Am (Kd.R_after (ok:=(fun k_=>some k_ ≠ (.slice Ao10 t546.length co10:Value).ownBlock ∧ some k_ ≠ (.slice Ao22 t562.length co22:Value).ownBlock ∧ some k_ ≠ (.slice Ao107 t573.length co107:Value).ownBlock ∧ some k_ ≠ (.slice Ao116 t581.length co116:Value).ownBlock)) (by (with_reducible repeat (first|apply rA|apply rN|apply rD));exact Kd.R_mono HO_561001.out (fun _ hk=>⟨⟨hk.1.1.1.1,⟨hk.1.1.1.2,⟨hk.1.1.2,hk.1.2⟩⟩⟩,hk.2⟩)) hg hat);have n2_:=Am (Kd.R_after (ok:=(fun k_=>some k_ ≠ (.slice Ao10 t546.length co10:Value).ownBlock ∧ some k_ ≠ (.slice Ao15 t554.length co15:Value).ownBlock ∧ some k_ ≠ (.slice Ao107 t573.length co107:Value).ownBlock ∧ some k_ ≠ (.slice Ao116 t581.length co116:Value).ownBlock)) (by (with_reducible repeat (first|apply rA|apply rN|apply rD));exact Kd.R_mono HO_569001.out (fun _ hk=>⟨⟨hk.1.1.1.1,⟨hk.1.1.1.2,⟨hk.1.1.2,hk.1.2⟩⟩⟩,hk.2⟩)) hg hat);have n3_:=Am (blk_grown (bB BK552.out) hg (Kd.R_ne HO590.out BK552.out (by decide)));have n4_:=Am (blk_grown (bB BK560.out) hg (Kd.R_ne HO590.out BK560.out (by decide)));have n5_:=Am (blk_grown (bB BK568.out) hg (Kd.R_ne HO590.out BK568.out (by decide)));have n6_:=Am (Kd.R_after (ok:=(fun k_=>some k_ ≠ (.slice Ao10 t546.length co10:Value).ownBlock ∧ some k_ ≠ (.slice Ao15 t554.length co15:Value).ownBlock ∧ some k_ ≠ (.slice Ao22 t562.length co22:Value).ownBlock ∧ some k_ ≠ (.slice Ao116 t581.length co116:Value).ownBlock)) (by (with_reducible repeat (first|apply rA|apply rN|apply rD));exact Kd.R_mono HO575.out (fun _ hk=>⟨⟨hk.1.1.1.1.2,⟨hk.1.1.1.2,⟨hk.1.1.2,hk.1.2⟩⟩⟩,hk.2⟩)) hg hat);have n7_:=Am (blk_grown (bB BK579.out) hg (Kd.R_ne HO590.out BK579.out (by decide)));have n8_:=Am (Kd.R_after (ok:=(fun k_=>some k_ ≠ (.slice Ao10 t546.length co10:Value).ownBlock ∧ some k_ ≠ (.slice Ao15 t554.length co15:Value).ownBlock ∧ some k_ ≠ (.slice Ao22 t562.length co22:Value).ownBlock ∧ some k_ ≠ (.slice Ao107 t573.length co107:Value).ownBlock)) (by (with_reducible repeat (first|apply rA|apply rN|apply rD));exact Kd.R_mono HO583.out (fun _ hk=>⟨⟨hk.1.1.1.1.2,⟨hk.1.1.1.2,⟨hk.1.1.2,hk.1.2⟩⟩⟩,hk.2⟩)) hg hat);have n9_:=Am (blk_grown (bB BK587.out) hg (Kd.R_ne HO590.out BK587.out (by decide)));have n10_:=Am (hb);have n11_:=Am ((show Kd.C Kd.string w121 Ao10 y591.length y591 from by rw [Ny591.out];exact Kd.C_take (m:=((ji56):Int).toNat) ((Kd.R_reads' (Kd.R_after (ok:=(fun k_=>some k_ ≠ (.slice Ao15 t554.length co15:Value).ownBlock ∧ some k_ ≠ (.slice Ao22 t562.length co22:Value).ownBlock ∧ some k_ ≠ (.slice Ao107 t573.length co107:Value).ownBlock ∧ some k_ ≠ (.slice Ao116 t581.length co116:Value).ownBlock)) (by (with_reducible repeat (first|apply rA|apply rN|apply rD));exact Kd.R_mono HO_553001.out (fun _ hk=>⟨⟨hk.1.1.1.1,⟨hk.1.1.1.2,⟨hk.1.1.2,hk.1.2⟩⟩⟩,hk.2⟩)) hg hat)).2.2) KL120.out));have n12_:=Am (ho);clear HO_553001 HO_561001 HO_569001 BK552 BK560 BK568 HO575 BK579 HO583 BK587 HB HR594 HO590;have HO_553001:=n0_;have HO_561001:=n1_;have HO_569001:=n2_;have BK552:=n3_;have BK560:=n4_;have BK568:=n5_;have HO575:=n6_;have BK579:=n7_;have HO583:=n8_;have BK587:=n9_;have HB:=n10_;have HR594:=n11_;have HO597:=n12_;clear n0_ n1_ n2_ n3_ n4_ n5_ n6_ n7_ n8_ n9_ n10_ n11_ n12_ ho hb hg hat)|((with_reducible refine gate_builtin (b:=.append) (xs:=#[.tmp 80, .tmp 81]) rfl ?_);(try (refine gate_guard (by rfl) ?_;dsimp only));at_builtin;refine Kd.R_append Kd.string (w0:=w) w.heap.size rfl (.tmp 80) (.tmp 81) 23 9 (.string ⟨#[]⟩) 16 rfl Tryd.underlying23 info9 rfl (by decide) (by omega) v596 y595 (⟨#[113]⟩:ByteArray) [.string (⟨#[113]⟩:ByteArray)] (fun k_=>some k_ ≠ (.slice Ao10 t546.length co10:Value).ownBlock ∧ some k_ ≠ (.slice Ao15 t554.length co15:Value).ownBlock ∧ some k_ ≠ (.slice Ao22 t562.length co22:Value).ownBlock ∧ some k_ ≠ (.slice Ao107 t573.length co107:Value).ownBlock ∧ some k_ ≠ (.slice Ao116 t581.length co116:Value).ownBlock) (fun _=>False) rfl rfl ?aP (fun _ hk=>hk.elim) ?aF ?aO ?aB ?aS ?aL ?_;(case aP=>exact rfl);(case aB=>exact (by repeat (first|(with_reducible first|exact HB.out|apply bA|apply bN|apply bD|refine bS ?_ GE552.out|refine bS ?_ GE560.out|refine bS ?_ GE568.out|refine bS ?_ GE579.out|refine bS ?_ GE587.out)|exact HB.out)));(case aF=>exact (fun k_ hk=>⟨Kd.fresh' (Kd.R_lt (bR HO_553001.out)) k_ hk,Kd.fresh' (Kd.R_lt (bR HO_561001.out)) k_ hk,Kd.fresh' (Kd.R_lt (bR HO_569001.out)) k_ hk,Kd.fresh' (Kd.R_lt (bR HO575.out)) k_ hk,Kd.fresh' (Kd.R_lt (bR HO583.out)) k_ hk⟩));(case aO=>exact (bR HO597.out));(case aS=>exact (bU (by repeat (first|(with_reducible first|exact HB.out|apply bA|apply bN|apply bD|refine bS ?_ GE552.out|refine bS ?_ GE560.out|refine bS ?_ GE568.out|refine bS ?_ GE579.out|refine bS ?_ GE587.out)|exact HB.out))));(case aL=>have:=LMc60.out;omega);intro v599 w122 ho hb hg hat;rw [← Ny598.out] at ho;have n0_:=Am (Kd.R_after (ok:=(fun k_=>some k_ ≠ (.slice Ao15 t554.length co15:Value).ownBlock ∧ some k_ ≠ (.slice Ao22 t562.length co22:Value).ownBlock ∧ some k_ ≠ (.slice Ao107 t573.length co107:Value).ownBlock ∧ some k_ ≠ (.slice Ao116 t581.length co116:Value).ownBlock)) (bR HO_553001.out) hg hat);have n1_:=Am (Kd.R_after (ok:=(fun k_=>some k_ ≠ (.slice Ao10 t546.length co10:Value).ownBlock ∧ some k_ ≠ (.slice Ao22 t562.length co22:Value).ownBlock ∧ some k_ ≠ (.slice Ao107 t573.length co107:Value).ownBlock ∧ some k_ ≠ (.slice Ao116 t581.length co116:Value).ownBlock)) (bR HO_561001.out) hg hat);have n2_:=Am (Kd.R_after (ok:=(fun k_=>some k_ ≠ (.slice Ao10 t546.length co10:Value).ownBlock ∧ some k_ ≠ (.slice Ao15 t554.length co15:Value).ownBlock ∧ some k_ ≠ (.slice Ao107 t573.length co107:Value).ownBlock ∧ some k_ ≠ (.slice Ao116 t581.length co116:Value).ownBlock)) (bR HO_569001.out) hg hat);have n3_:=Am (blk_grown (bB BK552.out) hg (Kd.R_ne HO597.out BK552.out (by decide)));have n4_:=Am (blk_grown (bB BK560.out) hg (Kd.R_ne HO597.out BK560.out (by decide)));have n5_:=Am (blk_grown (bB BK568.out) hg (Kd.R_ne HO597.out BK568.out (by decide)));have n6_:=Am (Kd.R_after (ok:=(fun k_=>some k_ ≠ (.slice Ao10 t546.length co10:Value).ownBlock ∧ some k_ ≠ (.slice Ao15 t554.length co15:Value).ownBlock ∧ some k_ ≠ (.slice Ao22 t562.length co22:Value).ownBlock ∧ some k_ ≠ (.slice Ao116 t581.length co116:Value).ownBlock)) (bR HO575.out) hg hat);have n7_:=Am (blk_grown (bB BK579.out) hg (Kd.R_ne HO597.out BK579.out (by decide)));have n8_:=Am (Kd.R_after (ok:=(fun k_=>some k_ ≠ (.slice Ao10 t546.length co10:Value).ownBlock ∧ some k_ ≠ (.slice Ao15 t554.length co15:Value).ownBlock ∧ some k_ ≠ (.slice Ao22 t562.length co22:Value).ownBlock ∧ some k_ ≠ (.slice Ao107 t573.length co107:Value).ownBlock)) (bR HO583.out) hg hat);have n9_:=Am (blk_grown (bB BK587.out) hg (Kd.R_ne HO597.out BK587.out (by decide)));have n10_:=Am (hb);have n11_:=Am ((show Kd.C Kd.string w122 Ao10 y591.length y591 from by rw [Ny591.out];exact Kd.C_take (m:=((ji56):Int).toNat) ((Kd.R_reads' (Kd.R_after (ok:=(fun k_=>some k_ ≠ (.slice Ao15 t554.length co15:Value).ownBlock ∧ some k_ ≠ (.slice Ao22 t562.length co22:Value).ownBlock ∧ some k_ ≠ (.slice Ao107 t573.length co107:Value).ownBlock ∧ some k_ ≠ (.slice Ao116 t581.length co116:Value).ownBlock)) (bR HO_553001.out) hg hat)).2.2) KL120.out));have n12_:=Am (ho);clear HO_553001 HO_561001 HO_569001 BK552 BK560 BK568 HO575 BK579 HO583 BK587 HB HR594 HO597;have HO_553001:=n0_;have HO_561001:=n1_;have HO_569001:=n2_;have BK552:=n3_;have BK560:=n4_;have BK568:=n5_;have HO575:=n6_;have BK579:=n7_;have HO583:=n8_;have BK587:=n9_;have HB:=n10_;have HR594:=n11_;have HO600:=n12_;clear n0_ n1_ n2_ n3_ n4_ n5_ n6_ n7_ n8_ n9_ n10_ n11_ n12_ ho hb hg hat;obtain ⟨hcz123_0,hcz123_1,hcz123_2,hcz123_3,hfz123_0,hfz123_1,hfz123_2,hfz123_3⟩:=bX BK579.out;obtain ⟨hcz124_0,hcz124_1,hcz124_2,hcz124_3,hfz124_0,hfz124_1,hfz124_2,hfz124_3⟩:=bX BK587.out)|(go_at_call 14;(with_reducible refine (laws_lpAddr.calls kj5 t572 _ _ t573 t576 t577 t580 _ _ t581 t584 t585 true _ ?side1 ?side2 ?side3 ?side4 A62.out).mono ?_);(case side1=>repeat (first|exact (Kd.R_reads' HO575.out).2.2|(with_reducible refine bC ?_)));(case side2=>exact (Kd.R_reads' HO575.out).2.1);(case side3=>repeat (first|exact (Kd.R_reads' HO583.out).2.2|(with_reducible refine bC ?_)));(case side4=>exact (Kd.R_reads' HO583.out).2.1);rintro e w125 ⟨rfl,hb⟩;have n0_:=bH HO_553001 hb;have n1_:=bH HO_561001 hb;have n2_:=bH HO_569001 hb;have n3_:=bH HO575 hb;have n4_:=bH HO583 hb;have n5_:=bH HO600 hb;have n6_:=Am (blk_below (bB BK552.out) hb);have n7_:=Am (blk_below (bB BK560.out) hb);have n8_:=Am (blk_below (bB BK568.out) hb);have n9_:=Am (blk_below (bB BK579.out) hb);have n10_:=Am (blk_below (bB BK587.out) hb);have n11_:=Am (Kd.C_below (by repeat (first|(with_reducible exact HR594.out)|(with_reducible refine bC ?_)|exact HR594.out)) hb);have n12_:=Am (bT (by repeat (first|(with_reducible first|exact HB.out|apply bA|apply bN|apply bD|refine bS ?_ GE552.out|refine bS ?_ GE560.out|refine bS ?_ GE568.out|refine bS ?_ GE579.out|refine bS ?_ GE587.out)|exact HB.out)) hb);clear HO_553001 HO_561001 HO_569001 HO575 HO583 HO600 BK552 BK560 BK568 BK579 BK587 HR594 HB;have HO_553001:=n0_;have HO_561001:=n1_;have HO_569001:=n2_;have HO575:=n3_;have HO583:=n4_;have HO600:=n5_;have BK552:=n6_;have BK560:=n7_;have BK568:=n8_;have BK579:=n9_;have BK587:=n10_;have HR594:=n11_;have HB:=n12_;clear n0_ n1_ n2_ n3_ n4_ n5_ n6_ n7_ n8_ n9_ n10_ n11_ n12_;(try clear hb)))
            go_ret
            exact ⟨by first|rfl|(simp <;> rfl)|(simp only [← hji56];first|rfl|(simp <;> rfl))|(simp [*] <;> rfl),by repeat (first|(with_reducible first|exact HB.out|apply bA|apply bN|apply bD|refine bS ?_ GE552.out|refine bS ?_ GE560.out|refine bS ?_ GE568.out|refine bS ?_ GE579.out|refine bS ?_ GE587.out)|exact HB.out)⟩
          ·replace c63:=Bool.eq_false_iff.mpr c63
           subst c63
           have H1:(none) = some r:=by rw [if_neg (show ¬ (false = true) by decide)] at H;exact H
           clear H
           have H:=H1
           clear H1
           exact absurd H (by simp)
         ·rw [if_neg c61] at H
          exact absurd H (by simp)
        ·rw [if_neg c60] at H
         exact absurd H (by simp)
       ·rw [if_neg c59] at H
        exact absurd H (by simp)
      ·rw [if_neg c58] at H
       exact absurd H (by simp)
     ·rw [if_neg c57] at H
      exact absurd H (by simp)

def laws_FnJoinBeside.Pure:Prop:=∀ (l0:List Int),l0.length ≤ maxLen → l0.length * 1 ≤ 140737488351232 → (∀ x ∈ l0,(Lit.int .u8 x).wf = true) → ∃ k,laws_FnJoinBeside.f k l0 = some true
end Go.Proofs.YtbnnamjaljohiaaDoor.P
