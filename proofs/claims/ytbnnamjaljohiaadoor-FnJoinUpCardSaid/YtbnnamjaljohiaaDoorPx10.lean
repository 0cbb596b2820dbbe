-- Written by a program of this session (patch_print.py over the kit's print; given texts in wip/given).
-- Cut down by a program of this session (wip/tools/prune.py) to what its claim can name.
import Derived.Test.YtbnnamjaljohiaaDoorSq
import Derived.Test.YtbnnamjaljohiaaDoorPx0
import Derived.Test.YtbnnamjaljohiaaDoorPx2
import Derived.Test.YtbnnamjaljohiaaDoorPx4
import Derived.Test.YtbnnamjaljohiaaDoorPx5
import Derived.Test.YtbnnamjaljohiaaDoorPx7
namespace Go.Proofs.YtbnnamjaljohiaaDoor.P
open Go.RowKit Go.Proofs.YtbnnamjaljohiaaDoorW.PrintWords Go.Proofs.YtbnnamjaljohiaaDoorW.PrintLast Go.Proofs.YtbnnamjaljohiaaDoorW.PrintMore
attribute [local go_sem] max2_int min2_int max_two min_two max_three min_three max_four min_four   -- for this text's walks alone
set_option linter.unusedVariables false
set_option linter.unusedSimpArgs false
set_option maxHeartbeats 8000000
set_option maxRecDepth 100000

def laws_FnJoinUp.j0:Nat → Bool → Bool → Bool → ByteArray → List ByteArray → Bool → ByteArray → ByteArray → List ByteArray → Bool → ByteArray → ByteArray → List ByteArray → Bool → ByteArray → Option (Bool)
 | 0,_,_,_,_,_,_,_,_,_,_,_,_,_,_,_=>none
 | k + 1,x6,x8,x49,x669000,x669001,x669002,x669003,x677000,x677001,x677002,x677003,x685000,x685001,x685002,x685003=>if x49 = true then (if (x8 == x6) = true then ((laws_lpAddr.f k x685000 x685001 x685002 x685003 x677000 x677001 x677002 x677003).bind fun t687=>(some t687)) else (none)) else ((impl_AddrJoin.f k x669000 x669001 x669002 x669003 (⟨#[46]⟩:ByteArray)).bind fun bt688=>((impl_AddrJoin.f k x669000 x669001 x669002 x669003 (⟨#[46,46]⟩:ByteArray)).bind fun bt696=>((impl_AddrJoin.f k x669000 x669001 x669002 x669003 (⟨#[47]⟩:ByteArray)).bind fun bt704=>(if bt688.2.2.2.2 = true then (if 0 ≤ (mx (wrap64 ((x669001.length:Int) - 1)) 0) then (if (mx (wrap64 ((x669001.length:Int) - 1)) 0) ≤ (x669001.length:Int) then ((laws_lpAddr.f k bt688.1 bt688.2.1 bt688.2.2.1 bt688.2.2.2.1 x669000 (x669001.take ((mx (wrap64 ((x669001.length:Int) - 1)) 0):Int).toNat) false (⟨#[]⟩:ByteArray)).bind fun t716=>(if t716 = true then (if bt696.2.2.2.2 = true then (if 0 ≤ (mx (wrap64 ((x669001.length:Int) - 2)) 0) then (if (mx (wrap64 ((x669001.length:Int) - 2)) 0) ≤ (x669001.length:Int) then ((laws_lpAddr.f k bt696.1 bt696.2.1 bt696.2.2.1 bt696.2.2.2.1 x669000 (x669001.take ((mx (wrap64 ((x669001.length:Int) - 2)) 0):Int).toNat) false (⟨#[]⟩:ByteArray)).bind fun t721=>(if t721 = true then (if bt704.2.2.2.2 = true then ((laws_lpAddr.f k bt704.1 bt704.2.1 bt704.2.2.1 bt704.2.2.2.1 x669000 ([]:List ByteArray) false (⟨#[]⟩:ByteArray)).bind fun t722=>(some t722)) else (none)) else (none))) else (none)) else (none)) else (none)) else (none))) else (none)) else (none)) else (none)))))
def laws_FnJoinUp.f (k:Nat) (l0:List Int):Option (Bool):=if (l0.length:Int) > 1048576 then (some true) else ((spec_DrawAddrJoin.f k l0).bind fun bt661=>((spec_AddrJoin.f k bt661.1 bt661.2.1 bt661.2.2.1 bt661.2.2.2.1 bt661.2.2.2.2).bind fun bt669=>((impl_AddrJoin.f k bt661.1 bt661.2.1 bt661.2.2.1 bt661.2.2.2.1 bt661.2.2.2.2).bind fun bt677=>(if (bt677.2.2.2.2 != bt669.2.2.2.2) = true then (none) else ((laws_lpAddr.f k bt677.1 bt677.2.1 bt677.2.2.1 bt677.2.2.2.1 bt669.1 bt669.2.1 bt669.2.2.1 bt669.2.2.2.1).bind fun t685=>(if t685 = true then ((spec_AddrOk.f k bt661.1 bt661.2.1 bt661.2.2.1 bt661.2.2.2.1).bind fun t686=>(laws_FnJoinUp.j0 k bt669.2.2.2.2 bt677.2.2.2.2 (!t686) bt661.1 bt661.2.1 bt661.2.2.1 bt661.2.2.2.1 bt669.1 bt669.2.1 bt669.2.2.1 bt669.2.2.2.1 bt677.1 bt677.2.1 bt677.2.2.1 bt677.2.2.2.1)) else (none)))))))
theorem laws_FnJoinUp.mono_l:∀ k,(∀ y0 y1 y2 y3 y4 y5 y6 y7 y8 y9 y10 y11 y12 y13 y14,LeO (laws_FnJoinUp.j0 k y0 y1 y2 y3 y4 y5 y6 y7 y8 y9 y10 y11 y12 y13 y14) (laws_FnJoinUp.j0 (k + 1) y0 y1 y2 y3 y4 y5 y6 y7 y8 y9 y10 y11 y12 y13 y14))
 | 0=>fun _ _ _ _ _ _ _ _ _ _ _ _ _ _ _ r h=>by simp [laws_FnJoinUp.j0] at h
 | k + 1=>by
  have ih0:=laws_FnJoinUp.mono_l k
  ·intro y0 y1 y2 y3 y4 y5 y6 y7 y8 y9 y10 y11 y12 y13 y14
   unfold laws_FnJoinUp.j0
   repeat' first
   | (with_reducible apply ih0)
   | (with_reducible apply impl_AddrJoin.mono)
   | (with_reducible apply laws_lpAddr.mono)
   | (with_reducible apply spec_AddrJoin.mono)
   | (with_reducible apply spec_AddrOk.mono)
   | (with_reducible apply spec_DrawAddrJoin.mono)
   | (with_reducible exact LeO.refl _)
   | (with_reducible exact LeO.none _)
   | (with_reducible refine LeO.ite ?_ ?_)
   | (with_reducible refine LeO.bind ?_ (fun _=>?_))









theorem laws_FnJoinUp.mono:∀ a0 k,LeO (laws_FnJoinUp.f k a0) (laws_FnJoinUp.f (k + 1) a0):=by
 intro a0 k
 have ih0:=laws_FnJoinUp.mono_l k
 unfold laws_FnJoinUp.f
 repeat' first
   | (with_reducible apply ih0)
   | (with_reducible apply impl_AddrJoin.mono)
   | (with_reducible apply laws_lpAddr.mono)
   | (with_reducible apply spec_AddrJoin.mono)
   | (with_reducible apply spec_AddrOk.mono)
   | (with_reducible apply spec_DrawAddrJoin.mono)
   | (with_reducible exact LeO.refl _)
   | (with_reducible exact LeO.none _)
   | (with_reducible refine LeO.ite ?_ ?_)
   | (with_reducible refine LeO.bind ?_ (fun _=>?_))









def laws_FnJoinUp.T12:Bool × List (List Nat × List Nat):=(true,[([],[]),([0],[0]),([1],[1]),([1],[1]),([3,1],[1,3]),([1],[1]),([5,1],[1,5]),([1],[1]),([7,1],[1,7]),([8,1],[1,8]),([6,9,1],[1,6,9]),([4,10,1],[1,4,10]),([2,11,1,1],[1,2,11]),([1,12],[1,12]),([13,12],[13]),([14],[14]),([14,15],[14,15]),([16,14],[16]),([17],[17]),([17],[17]),([19,17],[17,19]),([17],[17]),([21,17],[17,21]),([17],[17]),([23,17],[17,23]),([24,17],[17,24]),([22,25,17],[17,22,25]),([20,26,17],[17,20,26]),([18,27,17,17],[17,18,27]),([17,28],[17,28]),([29,28],[29]),([30],[30]),([30,31],[30,31]),([32,30],[32]),([33],[33]),([33],[33]),([35,33],[33,35]),([36,33],[33,36]),([34,37,33,33],[33,34,37]),([33,38],[33,38]),([39,38,0,1,2,3,4,5,6,7,8,9,10,11,12,13,14,15,16,17,18,19,20,21,22,23,24,25,26,27,28,29,30,31,32,33,34,35,36,37,38,39],[39])])
def laws_FnJoinUp.B12:List Nat:=[0,1,3,3,11,3,35,3,131,387,995,2043,4095,8191,16383,32767,65535,131071,262143,262143,786431,262143,2359295,262143,8650751,25427967,65273855,133955583,268435455,536870911,1073741823,2147483647,4294967295,8589934591,17179869183,17179869183,51539607551,120259084287,274877906943,549755813887,1099511627775]
theorem laws_FnJoinUp.tab12:rtab .any (opsOf Tryd.f10 12) = laws_FnJoinUp.T12:=by kernel_rfl
theorem laws_FnJoinUp.bits12:waitsOk laws_FnJoinUp.T12.2 laws_FnJoinUp.B12 = true:=by kernel_rfl
theorem laws_FnJoinUp.calls (k:Nat) (A0:Option Addr) (c0:Nat) (l0:List Int) (r:Bool) (w:World) (hr0:Kd.C (Kd.int .u8) w A0 l0.length l0) (hc0:l0.length ≤ c0) (h:laws_FnJoinUp.f k l0 = some r) :
  Calls Tryd.prog 10 #[.slice A0 l0.length c0] w fun e w'=>e = .returned (.bool r) ∧ Below w.heap.size w w':=by
 have hu25:=Tryd.underlying25
 have HR0:=Am hr0
 have HC0:=Am hc0
 clear hr0 hc0
 have HB:=Am (Below.refl w.heap.size w)
 have H:(if (l0.length:Int) > 1048576 then (some true) else ((spec_DrawAddrJoin.f k l0).bind fun bt661=>((spec_AddrJoin.f k bt661.1 bt661.2.1 bt661.2.2.1 bt661.2.2.2.1 bt661.2.2.2.2).bind fun bt669=>((impl_AddrJoin.f k bt661.1 bt661.2.1 bt661.2.2.1 bt661.2.2.2.1 bt661.2.2.2.2).bind fun bt677=>(if (bt677.2.2.2.2 != bt669.2.2.2.2) = true then (none) else ((laws_lpAddr.f k bt677.1 bt677.2.1 bt677.2.2.1 bt677.2.2.2.1 bt669.1 bt669.2.1 bt669.2.2.1 bt669.2.2.2.1).bind fun t685=>(if t685 = true then ((spec_AddrOk.f k bt661.1 bt661.2.1 bt661.2.2.1 bt661.2.2.2.1).bind fun t686=>(laws_FnJoinUp.j0 k bt669.2.2.2.2 bt677.2.2.2.2 (!t686) bt661.1 bt661.2.1 bt661.2.2.1 bt661.2.2.2.1 bt669.1 bt669.2.1 bt669.2.2.1 bt669.2.2.2.1 bt677.1 bt677.2.1 bt677.2.2.1 bt677.2.2.2.1)) else (none)))))))) = some r:=h
 clear h
 by_cases c2:(l0.length:Int) > 1048576
 ·rw [if_pos c2] at H
  have c2b0:decide (1048576 < (l0.length:Int)) = true:=decide_eq_true c2
  have c2b1:decide (1048576 < l0.length) = true:=decide_eq_true (by omega)
  clear c2
  obtain rfl:=Option.some.inj H
  go_enter Tryd.func10,Tryd.ntmps10
  go_wp2
  go_ret
  exact ⟨by first|rfl|(simp <;> rfl)|(simp [*] <;> rfl),by repeat (first|(with_reducible first|exact HB.out|apply bA|apply bN|apply bD)|exact HB.out)⟩
 ·rw [if_neg c2] at H
  have c2b0:decide (1048576 < (l0.length:Int)) = false:=decide_eq_false c2
  have c2b1:decide (1048576 < l0.length) = false:=decide_eq_false (by omega)
  clear c2
  replace H:=bI H
  obtain ⟨⟨t661,t662,t665,t666,t667⟩,A30,H⟩:=H
  replace H:((spec_AddrJoin.f k t661 t662 t665 t666 t667).bind fun bt669=>((impl_AddrJoin.f k t661 t662 t665 t666 t667).bind fun bt677=>(if (bt677.2.2.2.2 != bt669.2.2.2.2) = true then (none) else ((laws_lpAddr.f k bt677.1 bt677.2.1 bt677.2.2.1 bt677.2.2.2.1 bt669.1 bt669.2.1 bt669.2.2.1 bt669.2.2.2.1).bind fun t685=>(if t685 = true then ((spec_AddrOk.f k t661 t662 t665 t666).bind fun t686=>(laws_FnJoinUp.j0 k bt669.2.2.2.2 bt677.2.2.2.2 (!t686) t661 t662 t665 t666 bt669.1 bt669.2.1 bt669.2.2.1 bt669.2.2.2.1 bt677.1 bt677.2.1 bt677.2.2.1 bt677.2.2.2.1)) else (none)))))) = some r:=H
  have A3:=Am A30
  clear A30
  replace H:=bI H
  obtain ⟨⟨t669,t670,t673,t674,t675⟩,A40,H⟩:=H
  replace H:((impl_AddrJoin.f k t661 t662 t665 t666 t667).bind fun bt677=>(if (bt677.2.2.2.2 != t675) = true then (none) else ((laws_lpAddr.f k bt677.1 bt677.2.1 bt677.2.2.1 bt677.2.2.2.1 t669 t670 t673 t674).bind fun t685=>(if t685 = true then ((spec_AddrOk.f k t661 t662 t665 t666).bind fun t686=>(laws_FnJoinUp.j0 k t675 bt677.2.2.2.2 (!t686) t661 t662 t665 t666 t669 t670 t673 t674 bt677.1 bt677.2.1 bt677.2.2.1 bt677.2.2.2.1)) else (none))))) = some r:=H
  have A4:=Am A40
  clear A40
  replace H:=bI H
  obtain ⟨⟨t677,t678,t681,t682,t683⟩,A50,H⟩:=H
  replace H:(if (t683 != t675) = true then (none) else ((laws_lpAddr.f k t677 t678 t681 t682 t669 t670 t673 t674).bind fun t685=>(if t685 = true then ((spec_AddrOk.f k t661 t662 t665 t666).bind fun t686=>(laws_FnJoinUp.j0 k t675 t683 (!t686) t661 t662 t665 t666 t669 t670 t673 t674 t677 t678 t681 t682)) else (none)))) = some r:=H
  have A5:=Am A50
  clear A50
  have HC6:=Am H
  clear H
  go_enter Tryd.func10,Tryd.ntmps10
  go_upto_region 6 with (first|((with_reducible refine gate_callee (f:=11) rfl ?_);refine goesL_ (some 21) rfl rfl Tryd.func11 (by kernel_rfl) rfl #[.slice A0 l0.length c0] rfl (aE1 rfl) ?_;(with_reducible refine (spec_DrawAddrJoin.calls k _ _ l0 t661 t662 t665 t666 t667 _ ?side1 ?side2 A3.out).mono ?_);(case side1=>repeat (first|exact HR0.out|(with_reducible refine bC ?_)));(case side2=>exact HC0.out);rintro e w7 ⟨v663,rfl,ho0,hb⟩;refine ⟨_,rfl,?_⟩;have n0_:=Am (Kd.R_lower ho0 (bU (by repeat (first|(with_reducible first|exact HB.out|apply bA|apply bN|apply bD)|exact HB.out))));have n1_:=Am (bT (by repeat (first|(with_reducible first|exact HB.out|apply bA|apply bN|apply bD)|exact HB.out)) hb);clear HB;have HO664:=n0_;have HB:=n1_;clear n0_ n1_;(try clear hb);(try clear ho0))|((with_reducible refine gate_dst (N:=3) rfl ?_);(try (refine gate_guard (by rfl) ?_;dsimp only));refine box_event ?hg (N:=3) ?hd (cs:=#[.string (⟨#[]⟩:ByteArray), .slice none 0 0, .bool false, .string (⟨#[]⟩:ByteArray)]) (t:=25) ?hr ?_;(case hd=>rfl);(case hg=>rfl);(case hr=>(go_simp <;> rfl));intro gb668 hg w8 hbox hb;have n0_:=bH HO664 hb;have n1_:=Am (bT (by repeat (first|(with_reducible first|exact HB.out|apply bA|apply bN|apply bD)|exact HB.out)) hb);have n2_:=Am (hbox);have n3_:=Am ((by rw [hg];exact (bU (by repeat (first|(with_reducible first|exact HB.out|apply bA|apply bN|apply bD)|exact HB.out))):w.heap.size ≤ gb668));have n4_:=n3_;clear HO664 HB;have HO664:=n0_;have HB:=n1_;have BK668:=n2_;have GW668:=n3_;have GE668:=n4_;clear n0_ n1_ n2_ n3_ n4_ hb hbox hg;obtain ⟨hcz9_0,hcz9_1,hcz9_2,hcz9_3,hfz9_0,hfz9_1,hfz9_2,hfz9_3⟩:=bX BK668.out;obtain ⟨Ao10,co10,eo10⟩:=Kd.R_slice HO664.out;subst eo10)|((with_reducible refine gate_callee (f:=12) rfl ?_);refine goesL_ (some 27) rfl rfl Tryd.func12 (by kernel_rfl) rfl #[.agg #[.string t661, .slice Ao10 t662.length co10, .bool t665, .string t666], .string t667] rfl (aE2 rfl rfl) ?_;(with_reducible refine (spec_AddrJoin.calls k t661 _ _ t662 t665 t666 t667 t669 t670 t673 t674 t675 _ ?side1 ?side2 A4.out).mono ?_);(case side1=>refine (Kd.R_reads' (e:=9) (base:=w.heap.size) (ok:=fun k_=>True) (n:=t662.length) (c:=co10) ?_).2.2;exact (by (with_reducible repeat (first|apply rA|apply rN|apply rD));exact (bQ HO664.out BK668.out (by decide) _ _ _ _)));(case side2=>exact (Kd.R_reads' HO664.out).2.1);rintro e w11 ⟨v671,rfl,ho0,hb⟩;refine ⟨_,rfl,?_⟩;have n0_:=Am (Kd.R_elder' (by (with_reducible repeat (first|apply rA|apply rN|apply rD));exact (bQ HO664.out BK668.out (by decide) _ _ _ _)) (Kd.R_base ho0) hb);have n1_:=Am (Kd.R_lower (Kd.R_new' ho0 (Kd.R_lt (by (with_reducible repeat (first|apply rA|apply rN|apply rD));exact (bQ HO664.out BK668.out (by decide) _ _ _ _)))) (bU (by repeat (first|(with_reducible first|exact HB.out|apply bA|apply bN|apply bD|refine bS ?_ GE668.out)|exact HB.out))));have n2_:=Am (blk_below (g:=gb668) (o:=.cells #[.string t661, .slice Ao10 t662.length co10, .bool t665, .string t666] 25 (0,0)) (by refine bB ?_;apply bP;refine bB ?_;exact BK668.out) hb);have n3_:=Am (bT (by repeat (first|(with_reducible first|exact HB.out|apply bA|apply bN|apply bD|refine bS ?_ GE668.out)|exact HB.out)) hb);clear HO664 BK668 HB;have HO664:=n0_;have HO672:=n1_;have BK668:=n2_;have HB:=n3_;clear n0_ n1_ n2_ n3_;(try clear hb);(try clear ho0))|((with_reducible refine gate_dst (N:=5) rfl ?_);(try (refine gate_guard (by rfl) ?_;dsimp only));refine box_event ?hg (N:=5) ?hd (cs:=#[.string (⟨#[]⟩:ByteArray), .slice none 0 0, .bool false, .string (⟨#[]⟩:ByteArray)]) (t:=25) ?hr ?_;(case hd=>rfl);(case hg=>rfl);(case hr=>(go_simp <;> rfl));intro gb676 hg w12 hbox hb;have n0_:=bH HO664 hb;have n1_:=bH HO672 hb;have n2_:=Am (blk_below (bB BK668.out) hb);have n3_:=Am (bT (by repeat (first|(with_reducible first|exact HB.out|apply bA|apply bN|apply bD|refine bS ?_ GE668.out)|exact HB.out)) hb);have n4_:=Am (hbox);have n5_:=Am ((by rw [hg];exact (bU (by repeat (first|(with_reducible first|exact HB.out|apply bA|apply bN|apply bD|refine bS ?_ GE668.out)|exact HB.out))):w.heap.size ≤ gb676));have n6_:=n5_;have n7_:=Am ((by rw [hg];exact Nat.ne_of_lt (blk_lt (bB BK668.out)):gb668 ≠ gb676));have n8_:=Am ((by rw [hg];exact Nat.ne_of_gt (blk_lt (bB BK668.out)):gb676 ≠ gb668));clear HO664 HO672 BK668 HB;have HO664:=n0_;have HO672:=n1_;have BK668:=n2_;have HB:=n3_;have BK676:=n4_;have GW676:=n5_;have GE676:=n6_;have NB668_676:=n7_;have NB676_668:=n8_;clear n0_ n1_ n2_ n3_ n4_ n5_ n6_ n7_ n8_ hb hbox hg;have hnb13:=NB676_668.out;have hnc13:=NB668_676.out;obtain ⟨hcz14_0,hcz14_1,hcz14_2,hcz14_3,hfz14_0,hfz14_1,hfz14_2,hfz14_3⟩:=bX BK676.out;obtain ⟨Ao15,co15,eo15⟩:=Kd.R_slice HO672.out;subst eo15;obtain ⟨hcz16_0,hcz16_1,hcz16_2,hcz16_3,hfz16_0,hfz16_1,hfz16_2,hfz16_3⟩:=bX BK668.out)|((with_reducible refine gate_callee (f:=13) rfl ?_);refine goesL_ (some 33) rfl rfl Tryd.func13 (by kernel_rfl) rfl #[.agg #[.string t661, .slice Ao10 t662.length co10, .bool t665, .string t666], .string t667] rfl (aE2 rfl rfl) ?_;(with_reducible refine (impl_AddrJoin.calls k t661 _ _ t662 t665 t666 t667 t677 t678 t681 t682 t683 _ ?side1 ?side2 A5.out).mono ?_);(case side1=>refine (Kd.R_reads' (e:=9) (base:=w.heap.size) (ok:=fun k_=>(True ∧ some k_ ≠ (.slice Ao15 t670.length co15:Value).ownBlock)) (n:=t662.length) (c:=co10) ?_).2.2;exact (by (with_reducible repeat (first|apply rA|apply rN|apply rD));exact (bQ HO664.out BK676.out (by decide) _ _ _ _)));(case side2=>exact (Kd.R_reads' HO664.out).2.1);rintro e w17 ⟨v679,rfl,ho0,hb⟩;refine ⟨_,rfl,?_⟩;have n0_:=Am (Kd.R_elder' (by (with_reducible repeat (first|apply rA|apply rN|apply rD));exact (bQ HO664.out BK676.out (by decide) _ _ _ _)) (Kd.R_base ho0) hb);have n1_:=Am (Kd.R_elder' (by (with_reducible repeat (first|apply rA|apply rN|apply rD));exact (bQ HO672.out BK676.out (by decide) _ _ _ _)) (Kd.R_base ho0) hb);have n2_:=Am (Kd.R_lower (Kd.R_new' (Kd.R_new' ho0 (Kd.R_lt (by (with_reducible repeat (first|apply rA|apply rN|apply rD));exact (bQ HO664.out BK676.out (by decide) _ _ _ _)))) (Kd.R_lt (by (with_reducible repeat (first|apply rA|apply rN|apply rD));exact (bQ HO672.out BK676.out (by decide) _ _ _ _)))) (bU (by repeat (first|(with_reducible first|exact HB.out|apply bA|apply bN|apply bD|refine bS ?_ GE668.out|refine bS ?_ GE676.out)|exact HB.out))));have n3_:=Am (blk_below (g:=gb668) (o:=.cells #[.string t661, .slice Ao10 t662.length co10, .bool t665, .string t666] 25 (0,0)) (by refine bB ?_;refine bF ?_ NB668_676.out;refine bB ?_;exact BK668.out) hb);have n4_:=Am (blk_below (g:=gb676) (o:=.cells #[.string t669, .slice Ao15 t670.length co15, .bool t673, .string t674] 25 (0,0)) (by refine bB ?_;apply bP;refine bB ?_;exact BK676.out) hb);have n5_:=Am (bT (by repeat (first|(with_reducible first|exact HB.out|apply bA|apply bN|apply bD|refine bS ?_ GE668.out|refine bS ?_ GE676.out)|exact HB.out)) hb);clear HO664 HO672 BK668 BK676 HB;have HO664:=n0_;have HO672:=n1_;have HO680:=n2_;have BK668:=n3_;have BK676:=n4_;have HB:=n5_;clear n0_ n1_ n2_ n3_ n4_ n5_;(try clear hb);(try clear ho0))|((with_reducible refine gate_dst (N:=7) rfl ?_);(try (refine gate_guard (by rfl) ?_;dsimp only));refine box_event ?hg (N:=7) ?hd (cs:=#[.string (⟨#[]⟩:ByteArray), .slice none 0 0, .bool false, .string (⟨#[]⟩:ByteArray)]) (t:=25) ?hr ?_;(case hd=>rfl);(case hg=>rfl);(case hr=>(go_simp <;> rfl));intro gb684 hg w18 hbox hb;have n0_:=bH HO664 hb;have n1_:=bH HO672 hb;have n2_:=bH HO680 hb;have n3_:=Am (blk_below (bB BK668.out) hb);have n4_:=Am (blk_below (bB BK676.out) hb);have n5_:=Am (bT (by repeat (first|(with_reducible first|exact HB.out|apply bA|apply bN|apply bD|refine bS ?_ GE668.out|refine bS ?_ GE676.out)|exact HB.out)) hb);have n6_:=Am (hbox);have n7_:=Am ((by rw [hg];exact (bU (by repeat (first|(with_reducible first|exact HB.out|apply bA|apply bN|apply bD|refine bS ?_ GE668.out|refine bS ?_ GE676.out)|exact HB.out))):w.heap.size ≤ gb684));have n8_:=n7_;have n9_:=Am ((by rw [hg];exact Nat.ne_of_lt (blk_lt (bB BK668.out)):gb668 ≠ gb684));have n10_:=Am ((by rw [hg];exact Nat.ne_of_gt (blk_lt (bB BK668.out)):gb684 ≠ gb668));have n11_:=Am ((by rw [hg];exact Nat.ne_of_lt (blk_lt (bB BK676.out)):gb676 ≠ gb684));have n12_:=Am ((by rw [hg];exact Nat.ne_of_gt (blk_lt (bB BK676.out)):gb684 ≠ gb676));clear HO664 HO672 HO680 BK668 BK676 HB;have HO664:=n0_;have HO672:=n1_;have HO680:=n2_;have BK668:=n3_;have BK676:=n4_;have HB:=n5_;have BK684:=n6_;have GW684:=n7_;have GE684:=n8_;have NB668_684:=n9_;have NB684_668:=n10_;have NB676_684:=n11_;have NB684_676:=n12_;clear n0_ n1_ n2_ n3_ n4_ n5_ n6_ n7_ n8_ n9_ n10_ n11_ n12_ hb hbox hg;have hnb19:=NB684_668.out;have hnc19:=NB668_684.out;have hnb20:=NB684_676.out;have hnc20:=NB676_684.out;obtain ⟨hcz21_0,hcz21_1,hcz21_2,hcz21_3,hfz21_0,hfz21_1,hfz21_2,hfz21_3⟩:=bX BK684.out;obtain ⟨Ao22,co22,eo22⟩:=Kd.R_slice HO680.out;subst eo22))
  (try simp only [Act.put,lT,lZ,lS])
  go_cut [49] (fun v49 wc=>∃ (kq:Nat) (x49_5:Bool),v49 = .bool x49_5 ∧ Aside0 (laws_FnJoinUp.j0 kq t675 t683 x49_5 t661 t662 t665 t666 t669 t670 t673 t674 t677 t678 t681 t682 = some r) ∧ Aside0 (kq ≤ k) ∧ Aside0 (Kd.R Kd.string 9 wc w.heap.size (fun k_=>some k_ ≠ ((.slice Ao15 t670.length co15):Value).ownBlock ∧ some k_ ≠ ((.slice Ao22 t678.length co22):Value).ownBlock) (.slice Ao10 t662.length co10) t662) ∧ Aside0 (Kd.R Kd.string 9 wc w.heap.size (fun k_=>some k_ ≠ ((.slice Ao10 t662.length co10):Value).ownBlock ∧ some k_ ≠ ((.slice Ao22 t678.length co22):Value).ownBlock) (.slice Ao15 t670.length co15) t670) ∧ Aside0 (Kd.R Kd.string 9 wc w.heap.size (fun k_=>some k_ ≠ ((.slice Ao10 t662.length co10):Value).ownBlock ∧ some k_ ≠ ((.slice Ao15 t670.length co15):Value).ownBlock) (.slice Ao22 t678.length co22) t678) ∧ Aside0 (wc.heap[gb668]? = some (.cells #[.string t661,(.slice Ao10 t662.length co10), .bool t665, .string t666] 25 (0,0))) ∧ Aside0 (wc.heap[gb676]? = some (.cells #[.string t669,(.slice Ao15 t670.length co15), .bool t673, .string t674] 25 (0,0))) ∧ Aside0 (wc.heap[gb684]? = some (.cells #[.string t677,(.slice Ao22 t678.length co22), .bool t681, .string t682] 25 (0,0))) ∧ Aside0 (Below w.heap.size w wc))
  case first =>
   have H:=HC6.out
   clear HC6
   by_cases c23:(t683 != t675) = true
   ·rw [if_pos c23] at H
    exact absurd H (by simp)
   ·rw [if_neg c23] at H
    have c23b0:(t683 != t675) = false:=by simpa using c23
    (try (have c23b1:decide (t683 = t675) = true:=by simpa using c23))
    (try (have c23b2:(t683 == t675) = true:=by simpa using c23))
    clear c23
    (first|rw [c23b0]|(simp only [i64_w,i32_w];rw [c23b0])|skip)
    replace H:=bI H
    obtain ⟨t685,A240,H⟩:=H
    replace H:(if t685 = true then ((spec_AddrOk.f k t661 t662 t665 t666).bind fun t686=>(laws_FnJoinUp.j0 k t675 t683 (!t686) t661 t662 t665 t666 t669 t670 t673 t674 t677 t678 t681 t682)) else (none)) = some r:=H
    have A24:=Am A240
    clear A240
    by_cases c25:t685 = true
    ·subst c25
     have H1:((spec_AddrOk.f k t661 t662 t665 t666).bind fun t686=>(laws_FnJoinUp.j0 k t675 t683 (!t686) t661 t662 t665 t666 t669 t670 t673 t674 t677 t678 t681 t682)) = some r:=by rw [if_pos rfl] at H;exact H
     clear H
     have H:=H1
     clear H1
     replace H:=bI H
     obtain ⟨t686,A260,H⟩:=H
     replace H:(laws_FnJoinUp.j0 k t675 t683 (!t686) t661 t662 t665 t666 t669 t670 t673 t674 t677 t678 t681 t682) = some r:=H
     have A26:=Am A260
     clear A260
     have H':=Am H
     clear H
     have hnb27:=NB684_668.out
     have hnc27:=NB668_684.out
     have hnb28:=NB684_676.out
     have hnc28:=NB676_684.out
     obtain ⟨hcz29_0,hcz29_1,hcz29_2,hcz29_3,hfz29_0,hfz29_1,hfz29_2,hfz29_3⟩:=bX BK684.out







     have hnb30:=NB676_668.out
     have hnc30:=NB668_676.out
     obtain ⟨hcz31_0,hcz31_1,hcz31_2,hcz31_3,hfz31_0,hfz31_1,hfz31_2,hfz31_3⟩:=bX BK676.out







     go_wp2_with (first|(go_at_call 14;(with_reducible refine (laws_lpAddr.calls k t677 _ _ t678 t681 t682 t669 _ _ t670 t673 t674 true _ ?side1 ?side2 ?side3 ?side4 A24.out).mono ?_);(case side1=>refine (Kd.R_reads' (e:=9) (base:=w.heap.size) (ok:=fun k_=>((True ∧ some k_ ≠ (.slice Ao10 t662.length co10:Value).ownBlock) ∧ some k_ ≠ (.slice Ao15 t670.length co15:Value).ownBlock)) (n:=t678.length) (c:=co22) ?_).2.2;exact (by (with_reducible repeat (first|apply rA|apply rN|apply rD));exact (bQ HO680.out BK684.out (by decide) _ _ _ _)));(case side2=>exact (Kd.R_reads' HO680.out).2.1);(case side3=>refine (Kd.R_reads' (e:=9) (base:=w.heap.size) (ok:=fun k_=>((True ∧ some k_ ≠ (.slice Ao10 t662.length co10:Value).ownBlock) ∧ some k_ ≠ (.slice Ao22 t678.length co22:Value).ownBlock)) (n:=t670.length) (c:=co15) ?_).2.2;exact (by (with_reducible repeat (first|apply rA|apply rN|apply rD));exact (bQ HO672.out BK684.out (by decide) _ _ _ _)));(case side4=>exact (Kd.R_reads' HO672.out).2.1);rintro e w32 ⟨rfl,hb⟩;have n0_:=Am (Kd.R_below (by (with_reducible repeat (first|apply rA|apply rN|apply rD));exact (bQ HO664.out BK684.out (by decide) _ _ _ _)) hb);have n1_:=Am (Kd.R_below (by (with_reducible repeat (first|apply rA|apply rN|apply rD));exact (bQ HO672.out BK684.out (by decide) _ _ _ _)) hb);have n2_:=Am (Kd.R_below (by (with_reducible repeat (first|apply rA|apply rN|apply rD));exact (bQ HO680.out BK684.out (by decide) _ _ _ _)) hb);have n3_:=Am (blk_below (g:=gb668) (o:=.cells #[.string t661, .slice Ao10 t662.length co10, .bool t665, .string t666] 25 (0,0)) (by refine bB ?_;refine bF ?_ NB668_684.out;refine bB ?_;exact BK668.out) hb);have n4_:=Am (blk_below (g:=gb676) (o:=.cells #[.string t669, .slice Ao15 t670.length co15, .bool t673, .string t674] 25 (0,0)) (by refine bB ?_;refine bF ?_ NB676_684.out;refine bB ?_;exact BK676.out) hb);have n5_:=Am (blk_below (g:=gb684) (o:=.cells #[.string t677, .slice Ao22 t678.length co22, .bool t681, .string t682] 25 (0,0)) (by refine bB ?_;apply bP;refine bB ?_;exact BK684.out) hb);have n6_:=Am (bT (by repeat (first|(with_reducible first|exact HB.out|apply bA|apply bN|apply bD|refine bS ?_ GE668.out|refine bS ?_ GE676.out|refine bS ?_ GE684.out)|exact HB.out)) hb);clear HO664 HO672 HO680 BK668 BK676 BK684 HB;have HO664:=n0_;have HO672:=n1_;have HO680:=n2_;have BK668:=n3_;have BK676:=n4_;have BK684:=n5_;have HB:=n6_;clear n0_ n1_ n2_ n3_ n4_ n5_ n6_;(try clear hb);obtain ⟨hcz33_0,hcz33_1,hcz33_2,hcz33_3,hfz33_0,hfz33_1,hfz33_2,hfz33_3⟩:=bX BK668.out)|(go_at_call 15;(with_reducible refine (spec_AddrOk.calls k t661 _ _ t662 t665 t666 t686 _ ?side1 ?side2 A26.out).mono ?_);(case side1=>repeat (first|exact (Kd.R_reads' HO664.out).2.2|(with_reducible refine bC ?_)));(case side2=>exact (Kd.R_reads' HO664.out).2.1);rintro e w34 ⟨rfl,hb⟩;have n0_:=bH HO664 hb;have n1_:=bH HO672 hb;have n2_:=bH HO680 hb;have n3_:=Am (blk_below (bB BK668.out) hb);have n4_:=Am (blk_below (bB BK676.out) hb);have n5_:=Am (blk_below (bB BK684.out) hb);have n6_:=Am (bT (by repeat (first|(with_reducible first|exact HB.out|apply bA|apply bN|apply bD|refine bS ?_ GE668.out|refine bS ?_ GE676.out|refine bS ?_ GE684.out)|exact HB.out)) hb);clear HO664 HO672 HO680 BK668 BK676 BK684 HB;have HO664:=n0_;have HO672:=n1_;have HO680:=n2_;have BK668:=n3_;have BK676:=n4_;have BK684:=n5_;have HB:=n6_;clear n0_ n1_ n2_ n3_ n4_ n5_ n6_;(try clear hb)))
     go_meet
     case rel=>exact ⟨_,(!t686),(by first|rfl|(simp;done)|(simp only [i64_w,i32_w] <;> rfl)|(simp [*];done)|(simp [emp_bne,emp_beq];done)),H',⟨by first|omega|exact Nat.le_refl _⟩,⟨by (with_reducible repeat (first|apply rA|apply rN|apply rD));exact Kd.R_mono HO664.out (fun _ hk=>⟨hk.1.2,hk.2⟩)⟩,⟨by (with_reducible repeat (first|apply rA|apply rN|apply rD));exact Kd.R_mono HO672.out (fun _ hk=>⟨hk.1.2,hk.2⟩)⟩,⟨by (with_reducible repeat (first|apply rA|apply rN|apply rD));exact Kd.R_mono HO680.out (fun _ hk=>⟨hk.1.2,hk.2⟩)⟩,⟨by refine bB ?_;exact BK668.out⟩,⟨by refine bB ?_;exact BK676.out⟩,⟨by refine bB ?_;exact BK684.out⟩,⟨by repeat (first|(with_reducible first|exact HB.out|apply bA|apply bN|apply bD|refine bS ?_ GE668.out|refine bS ?_ GE676.out|refine bS ?_ GE684.out)|exact HB.out)⟩⟩
    ·replace c25:=Bool.eq_false_iff.mpr c25
     subst c25
     have H1:(none) = some r:=by rw [if_neg (show ¬ (false = true) by decide)] at H;exact H
     clear H
     have H:=H1
     clear H1
     exact absurd H (by simp)
  case rest =>
   clear HC6
   try clear c1
   try clear c2
   try clear c2b0
   try clear c2b1
   try clear p2
   try clear c3
   try clear c10
   try clear c11
   try clear c12
   try clear c13
   try clear c19
   try clear c20
   try clear c23
   try clear c23b0
   try clear c23b1
   try clear c23b2
   try clear c25
   try clear c27
   try clear c28
   try clear c30
   try clear hcz14_0
   try clear hcz14_1
   try clear hcz14_2
   try clear hcz14_3
   try clear hcz16_0
   try clear hcz16_1
   try clear hcz16_2
   try clear hcz16_3
   try clear hcz21_0
   try clear hcz21_1
   try clear hcz21_2
   try clear hcz21_3
   try clear hcz29_0
   try clear hcz29_1
   try clear hcz29_2
   try clear hcz29_3
   try clear hcz31_0
   try clear hcz31_1
   try clear hcz31_2
   try clear hcz31_3
   try clear hcz33_0
   try clear hcz33_1
   try clear hcz33_2
   try clear hcz33_3
   try clear hcz9_0
   try clear hcz9_1
   try clear hcz9_2
   try clear hcz9_3
   try clear hfz14_0
   try clear hfz14_1
   try clear hfz14_2
   try clear hfz14_3
   try clear hfz16_0
   try clear hfz16_1
   try clear hfz16_2
   try clear hfz16_3
   try clear hfz21_0
   try clear hfz21_1
   try clear hfz21_2
   try clear hfz21_3
   try clear hfz29_0
   try clear hfz29_1
   try clear hfz29_2
   try clear hfz29_3
   try clear hfz31_0
   try clear hfz31_1
   try clear hfz31_2
   try clear hfz31_3
   try clear hfz33_0
   try clear hfz33_1
   try clear hfz33_2
   try clear hfz33_3
   try clear hfz9_0
   try clear hfz9_1
   try clear hfz9_2
   try clear hfz9_3
   obtain ⟨kq,x49_5,rfl,HA,HJ5,HO_669001,HO_677001,HO_685001,BK668,BK676,BK684,HB⟩:=hcut
   cases kq with
   | zero=>exact absurd HA.out (by simp [laws_FnJoinUp.j0])
   | succ kj5 =>
    have H:=HA.out
    clear HA
    simp only [laws_FnJoinUp.j0] at H
    by_cases c35:x49_5 = true
    ·subst c35
     have H1:(if (t683 == t675) = true then ((laws_lpAddr.f kj5 t677 t678 t681 t682 t669 t670 t673 t674).bind fun t687=>(some t687)) else (none)) = some r:=by rw [if_pos rfl] at H;exact H
     clear H
     have H:=H1
     clear H1
     by_cases c36:(t683 == t675) = true
     ·rw [if_pos c36] at H
      have c36b0:(t683 == t675) = true:=c36
      (try (have c36b1:decide (t683 = t675) = true:=by simpa using c36))
      (try (have c36b2:(t683 == t675) = true:=by simpa using c36))
      clear c36
      replace H:=bI H
      obtain ⟨t687,A370,H⟩:=H
      replace H:(some t687) = some r:=H
      have A37:=Am A370
      clear A370
      obtain rfl:=Option.some.inj H
      have hnb38:=NB684_668.out
      have hnc38:=NB668_684.out
      have hnb39:=NB684_676.out
      have hnc39:=NB676_684.out
      obtain ⟨hcz40_0,hcz40_1,hcz40_2,hcz40_3,hfz40_0,hfz40_1,hfz40_2,hfz40_3⟩:=bX BK684.out







      have hnb41:=NB676_668.out
      have hnc41:=NB668_676.out
      obtain ⟨hcz42_0,hcz42_1,hcz42_2,hcz42_3,hfz42_0,hfz42_1,hfz42_2,hfz42_3⟩:=bX BK676.out







      go_wp2_with (first|(go_at_call 14;(with_reducible refine (laws_lpAddr.calls kj5 t677 _ _ t678 t681 t682 t669 _ _ t670 t673 t674 t687 _ ?side1 ?side2 ?side3 ?side4 A37.out).mono ?_);(case side1=>repeat (first|exact (Kd.R_reads' HO_685001.out).2.2|(with_reducible refine bC ?_)));(case side2=>exact (Kd.R_reads' HO_685001.out).2.1);(case side3=>repeat (first|exact (Kd.R_reads' HO_677001.out).2.2|(with_reducible refine bC ?_)));(case side4=>exact (Kd.R_reads' HO_677001.out).2.1);rintro e w43 ⟨rfl,hb⟩;have n0_:=bH HO_669001 hb;have n1_:=bH HO_677001 hb;have n2_:=bH HO_685001 hb;have n3_:=Am (blk_below (bB BK668.out) hb);have n4_:=Am (blk_below (bB BK676.out) hb);have n5_:=Am (blk_below (bB BK684.out) hb);have n6_:=Am (bT (by repeat (first|(with_reducible first|exact HB.out|apply bA|apply bN|apply bD|refine bS ?_ GE668.out|refine bS ?_ GE676.out|refine bS ?_ GE684.out)|exact HB.out)) hb);clear HO_669001 HO_677001 HO_685001 BK668 BK676 BK684 HB;have HO_669001:=n0_;have HO_677001:=n1_;have HO_685001:=n2_;have BK668:=n3_;have BK676:=n4_;have BK684:=n5_;have HB:=n6_;clear n0_ n1_ n2_ n3_ n4_ n5_ n6_;(try clear hb)))
      go_ret
      exact ⟨by first|rfl|(simp <;> rfl)|(simp [*] <;> rfl),by repeat (first|(with_reducible first|exact HB.out|apply bA|apply bN|apply bD|refine bS ?_ GE668.out|refine bS ?_ GE676.out|refine bS ?_ GE684.out)|exact HB.out)⟩
     ·rw [if_neg c36] at H
      exact absurd H (by simp)
    ·replace c35:=Bool.eq_false_iff.mpr c35
     subst c35
     have H1:((impl_AddrJoin.f kj5 t661 t662 t665 t666 (⟨#[46]⟩:ByteArray)).bind fun bt688=>((impl_AddrJoin.f kj5 t661 t662 t665 t666 (⟨#[46,46]⟩:ByteArray)).bind fun bt696=>((impl_AddrJoin.f kj5 t661 t662 t665 t666 (⟨#[47]⟩:ByteArray)).bind fun bt704=>(if bt688.2.2.2.2 = true then (if 0 ≤ (mx (wrap64 ((t662.length:Int) - 1)) 0) then (if (mx (wrap64 ((t662.length:Int) - 1)) 0) ≤ (t662.length:Int) then ((laws_lpAddr.f kj5 bt688.1 bt688.2.1 bt688.2.2.1 bt688.2.2.2.1 t661 (t662.take ((mx (wrap64 ((t662.length:Int) - 1)) 0):Int).toNat) false (⟨#[]⟩:ByteArray)).bind fun t716=>(if t716 = true then (if bt696.2.2.2.2 = true then (if 0 ≤ (mx (wrap64 ((t662.length:Int) - 2)) 0) then (if (mx (wrap64 ((t662.length:Int) - 2)) 0) ≤ (t662.length:Int) then ((laws_lpAddr.f kj5 bt696.1 bt696.2.1 bt696.2.2.1 bt696.2.2.2.1 t661 (t662.take ((mx (wrap64 ((t662.length:Int) - 2)) 0):Int).toNat) false (⟨#[]⟩:ByteArray)).bind fun t721=>(if t721 = true then (if bt704.2.2.2.2 = true then ((laws_lpAddr.f kj5 bt704.1 bt704.2.1 bt704.2.2.1 bt704.2.2.2.1 t661 ([]:List ByteArray) false (⟨#[]⟩:ByteArray)).bind fun t722=>(some t722)) else (none)) else (none))) else (none)) else (none)) else (none)) else (none))) else (none)) else (none)) else (none))))) = some r:=by rw [if_neg (show ¬ (false = true) by decide)] at H;exact H
     clear H
     have H:=H1
     clear H1
     replace H:=bI H
     obtain ⟨⟨t688,t689,t692,t693,t694⟩,A440,H⟩:=H
     replace H:((impl_AddrJoin.f kj5 t661 t662 t665 t666 (⟨#[46,46]⟩:ByteArray)).bind fun bt696=>((impl_AddrJoin.f kj5 t661 t662 t665 t666 (⟨#[47]⟩:ByteArray)).bind fun bt704=>(if t694 = true then (if 0 ≤ (mx (wrap64 ((t662.length:Int) - 1)) 0) then (if (mx (wrap64 ((t662.length:Int) - 1)) 0) ≤ (t662.length:Int) then ((laws_lpAddr.f kj5 t688 t689 t692 t693 t661 (t662.take ((mx (wrap64 ((t662.length:Int) - 1)) 0):Int).toNat) false (⟨#[]⟩:ByteArray)).bind fun t716=>(if t716 = true then (if bt696.2.2.2.2 = true then (if 0 ≤ (mx (wrap64 ((t662.length:Int) - 2)) 0) then (if (mx (wrap64 ((t662.length:Int) - 2)) 0) ≤ (t662.length:Int) then ((laws_lpAddr.f kj5 bt696.1 bt696.2.1 bt696.2.2.1 bt696.2.2.2.1 t661 (t662.take ((mx (wrap64 ((t662.length:Int) - 2)) 0):Int).toNat) false (⟨#[]⟩:ByteArray)).bind fun t721=>(if t721 = true then (if bt704.2.2.2.2 = true then ((laws_lpAddr.f kj5 bt704.1 bt704.2.1 bt704.2.2.1 bt704.2.2.2.1 t661 ([]:List ByteArray) false (⟨#[]⟩:ByteArray)).bind fun t722=>(some t722)) else (none)) else (none))) else (none)) else (none)) else (none)) else (none))) else (none)) else (none)) else (none)))) = some r:=H
     have A44:=Am A440
     clear A440
     replace H:=bI H
     obtain ⟨⟨t696,t697,t700,t701,t702⟩,A450,H⟩:=H
     replace H:((impl_AddrJoin.f kj5 t661 t662 t665 t666 (⟨#[47]⟩:ByteArray)).bind fun bt704=>(if t694 = true then (if 0 ≤ (mx (wrap64 ((t662.length:Int) - 1)) 0) then (if (mx (wrap64 ((t662.length:Int) - 1)) 0) ≤ (t662.length:Int) then ((laws_lpAddr.f kj5 t688 t689 t692 t693 t661 (t662.take ((mx (wrap64 ((t662.length:Int) - 1)) 0):Int).toNat) false (⟨#[]⟩:ByteArray)).bind fun t716=>(if t716 = true then (if t702 = true then (if 0 ≤ (mx (wrap64 ((t662.length:Int) - 2)) 0) then (if (mx (wrap64 ((t662.length:Int) - 2)) 0) ≤ (t662.length:Int) then ((laws_lpAddr.f kj5 t696 t697 t700 t701 t661 (t662.take ((mx (wrap64 ((t662.length:Int) - 2)) 0):Int).toNat) false (⟨#[]⟩:ByteArray)).bind fun t721=>(if t721 = true then (if bt704.2.2.2.2 = true then ((laws_lpAddr.f kj5 bt704.1 bt704.2.1 bt704.2.2.1 bt704.2.2.2.1 t661 ([]:List ByteArray) false (⟨#[]⟩:ByteArray)).bind fun t722=>(some t722)) else (none)) else (none))) else (none)) else (none)) else (none)) else (none))) else (none)) else (none)) else (none))) = some r:=H
     have A45:=Am A450
     clear A450
     replace H:=bI H
     obtain ⟨⟨t704,t705,t708,t709,t710⟩,A460,H⟩:=H
     replace H:(if t694 = true then (if 0 ≤ (mx (wrap64 ((t662.length:Int) - 1)) 0) then (if (mx (wrap64 ((t662.length:Int) - 1)) 0) ≤ (t662.length:Int) then ((laws_lpAddr.f kj5 t688 t689 t692 t693 t661 (t662.take ((mx (wrap64 ((t662.length:Int) - 1)) 0):Int).toNat) false (⟨#[]⟩:ByteArray)).bind fun t716=>(if t716 = true then (if t702 = true then (if 0 ≤ (mx (wrap64 ((t662.length:Int) - 2)) 0) then (if (mx (wrap64 ((t662.length:Int) - 2)) 0) ≤ (t662.length:Int) then ((laws_lpAddr.f kj5 t696 t697 t700 t701 t661 (t662.take ((mx (wrap64 ((t662.length:Int) - 2)) 0):Int).toNat) false (⟨#[]⟩:ByteArray)).bind fun t721=>(if t721 = true then (if t710 = true then ((laws_lpAddr.f kj5 t704 t705 t708 t709 t661 ([]:List ByteArray) false (⟨#[]⟩:ByteArray)).bind fun t722=>(some t722)) else (none)) else (none))) else (none)) else (none)) else (none)) else (none))) else (none)) else (none)) else (none)) = some r:=H
     have A46:=Am A460
     clear A460
     by_cases c47:t694 = true
     ·subst c47
      have H1:(if 0 ≤ (mx (wrap64 ((t662.length:Int) - 1)) 0) then (if (mx (wrap64 ((t662.length:Int) - 1)) 0) ≤ (t662.length:Int) then ((laws_lpAddr.f kj5 t688 t689 t692 t693 t661 (t662.take ((mx (wrap64 ((t662.length:Int) - 1)) 0):Int).toNat) false (⟨#[]⟩:ByteArray)).bind fun t716=>(if t716 = true then (if t702 = true then (if 0 ≤ (mx (wrap64 ((t662.length:Int) - 2)) 0) then (if (mx (wrap64 ((t662.length:Int) - 2)) 0) ≤ (t662.length:Int) then ((laws_lpAddr.f kj5 t696 t697 t700 t701 t661 (t662.take ((mx (wrap64 ((t662.length:Int) - 2)) 0):Int).toNat) false (⟨#[]⟩:ByteArray)).bind fun t721=>(if t721 = true then (if t710 = true then ((laws_lpAddr.f kj5 t704 t705 t708 t709 t661 ([]:List ByteArray) false (⟨#[]⟩:ByteArray)).bind fun t722=>(some t722)) else (none)) else (none))) else (none)) else (none)) else (none)) else (none))) else (none)) else (none)) = some r:=by rw [if_pos rfl] at H;exact H
      clear H
      have H:=H1
      clear H1
      obtain ⟨ji48,hji48⟩:∃ j_:Int,(mx (wrap64 ((t662.length:Int) - 1)) 0) = j_:=⟨_,rfl⟩
      replace H:(if 0 ≤ (ji48) then (if (ji48) ≤ (t662.length:Int) then ((laws_lpAddr.f kj5 t688 t689 t692 t693 t661 (t662.take ((ji48):Int).toNat) false (⟨#[]⟩:ByteArray)).bind fun t716=>(if t716 = true then (if t702 = true then (if 0 ≤ (mx (wrap64 ((t662.length:Int) - 2)) 0) then (if (mx (wrap64 ((t662.length:Int) - 2)) 0) ≤ (t662.length:Int) then ((laws_lpAddr.f kj5 t696 t697 t700 t701 t661 (t662.take ((mx (wrap64 ((t662.length:Int) - 2)) 0):Int).toNat) false (⟨#[]⟩:ByteArray)).bind fun t721=>(if t721 = true then (if t710 = true then ((laws_lpAddr.f kj5 t704 t705 t708 t709 t661 ([]:List ByteArray) false (⟨#[]⟩:ByteArray)).bind fun t722=>(some t722)) else (none)) else (none))) else (none)) else (none)) else (none)) else (none))) else (none)) else (none)) = some r:=by first|(rw [hji48] at H;exact H)|(simp only [hji48] at H ⊢;exact H)
      (try rw [hji48] at A44)
      (try rw [hji48] at A45)
      (try rw [hji48] at A46)
      have hji48_:(if (wrap64 ((t662.length:Int) - 1)) < 0 then 0 else (wrap64 ((t662.length:Int) - 1))) = ji48:=hji48
      by_cases c49:0 ≤ (ji48)
      ·rw [if_pos c49] at H
       have c49b0:=eq_true c49
       have c49b1:=decide_eq_true c49
       clear c49
       by_cases c50:(ji48) ≤ (t662.length:Int)
       ·rw [if_pos c50] at H
        have c50b0:=eq_true c50
        have c50b1:=decide_eq_true c50
        clear c50
        obtain ⟨y712,hy712⟩:∃ y_:List ByteArray,y_ = (t662.take ((ji48):Int).toNat):=⟨_,rfl⟩
        replace H:((laws_lpAddr.f kj5 t688 t689 t692 t693 t661 y712 false (⟨#[]⟩:ByteArray)).bind fun t716=>(if t716 = true then (if t702 = true then (if 0 ≤ (mx (wrap64 ((t662.length:Int) - 2)) 0) then (if (mx (wrap64 ((t662.length:Int) - 2)) 0) ≤ (t662.length:Int) then ((laws_lpAddr.f kj5 t696 t697 t700 t701 t661 (t662.take ((mx (wrap64 ((t662.length:Int) - 2)) 0):Int).toNat) false (⟨#[]⟩:ByteArray)).bind fun t721=>(if t721 = true then (if t710 = true then ((laws_lpAddr.f kj5 t704 t705 t708 t709 t661 ([]:List ByteArray) false (⟨#[]⟩:ByteArray)).bind fun t722=>(some t722)) else (none)) else (none))) else (none)) else (none)) else (none)) else (none))) = some r:=by first|(rw [hy712];with_reducible exact H)|(have H2_:=(Option.bind_some _ _).symm.trans H;rw [hy712];with_reducible exact H2_)|(have H2_:=(Option.bind_some _ _).symm.trans H;with_reducible exact H2_)|with_reducible exact H|(rw [hy712];exact H)|exact H
        have Ny712:=Am hy712
        clear hy712
        replace H:=bI H
        obtain ⟨t716,A510,H⟩:=H
        replace H:(if t716 = true then (if t702 = true then (if 0 ≤ (mx (wrap64 ((t662.length:Int) - 2)) 0) then (if (mx (wrap64 ((t662.length:Int) - 2)) 0) ≤ (t662.length:Int) then ((laws_lpAddr.f kj5 t696 t697 t700 t701 t661 (t662.take ((mx (wrap64 ((t662.length:Int) - 2)) 0):Int).toNat) false (⟨#[]⟩:ByteArray)).bind fun t721=>(if t721 = true then (if t710 = true then ((laws_lpAddr.f kj5 t704 t705 t708 t709 t661 ([]:List ByteArray) false (⟨#[]⟩:ByteArray)).bind fun t722=>(some t722)) else (none)) else (none))) else (none)) else (none)) else (none)) else (none)) = some r:=H
        have A51:=Am A510
        clear A510
        by_cases c52:t716 = true
        ·subst c52
         have H1:(if t702 = true then (if 0 ≤ (mx (wrap64 ((t662.length:Int) - 2)) 0) then (if (mx (wrap64 ((t662.length:Int) - 2)) 0) ≤ (t662.length:Int) then ((laws_lpAddr.f kj5 t696 t697 t700 t701 t661 (t662.take ((mx (wrap64 ((t662.length:Int) - 2)) 0):Int).toNat) false (⟨#[]⟩:ByteArray)).bind fun t721=>(if t721 = true then (if t710 = true then ((laws_lpAddr.f kj5 t704 t705 t708 t709 t661 ([]:List ByteArray) false (⟨#[]⟩:ByteArray)).bind fun t722=>(some t722)) else (none)) else (none))) else (none)) else (none)) else (none)) = some r:=by rw [if_pos rfl] at H;exact H
         clear H
         have H:=H1
         clear H1
         by_cases c53:t702 = true
         ·subst c53
          have H1:(if 0 ≤ (mx (wrap64 ((t662.length:Int) - 2)) 0) then (if (mx (wrap64 ((t662.length:Int) - 2)) 0) ≤ (t662.length:Int) then ((laws_lpAddr.f kj5 t696 t697 t700 t701 t661 (t662.take ((mx (wrap64 ((t662.length:Int) - 2)) 0):Int).toNat) false (⟨#[]⟩:ByteArray)).bind fun t721=>(if t721 = true then (if t710 = true then ((laws_lpAddr.f kj5 t704 t705 t708 t709 t661 ([]:List ByteArray) false (⟨#[]⟩:ByteArray)).bind fun t722=>(some t722)) else (none)) else (none))) else (none)) else (none)) = some r:=by rw [if_pos rfl] at H;exact H
          clear H
          have H:=H1
          clear H1
          obtain ⟨ji54,hji54⟩:∃ j_:Int,(mx (wrap64 ((t662.length:Int) - 2)) 0) = j_:=⟨_,rfl⟩
          replace H:(if 0 ≤ (ji54) then (if (ji54) ≤ (t662.length:Int) then ((laws_lpAddr.f kj5 t696 t697 t700 t701 t661 (t662.take ((ji54):Int).toNat) false (⟨#[]⟩:ByteArray)).bind fun t721=>(if t721 = true then (if t710 = true then ((laws_lpAddr.f kj5 t704 t705 t708 t709 t661 ([]:List ByteArray) false (⟨#[]⟩:ByteArray)).bind fun t722=>(some t722)) else (none)) else (none))) else (none)) else (none)) = some r:=by first|(rw [hji54] at H;exact H)|(simp only [hji54] at H ⊢;exact H)
          (try rw [hji54] at A44)
          (try rw [hji54] at A45)
          (try rw [hji54] at A46)
          (try rw [hji54] at A51)
          have hji54_:(if (wrap64 ((t662.length:Int) - 2)) < 0 then 0 else (wrap64 ((t662.length:Int) - 2))) = ji54:=hji54
          by_cases c55:0 ≤ (ji54)
          ·rw [if_pos c55] at H
           have c55b0:=eq_true c55
           have c55b1:=decide_eq_true c55
           clear c55
           by_cases c56:(ji54) ≤ (t662.length:Int)
           ·rw [if_pos c56] at H
            have c56b0:=eq_true c56
            have c56b1:=decide_eq_true c56
            clear c56
            obtain ⟨y717,hy717⟩:∃ y_:List ByteArray,y_ = (t662.take ((ji54):Int).toNat):=⟨_,rfl⟩
            replace H:((laws_lpAddr.f kj5 t696 t697 t700 t701 t661 y717 false (⟨#[]⟩:ByteArray)).bind fun t721=>(if t721 = true then (if t710 = true then ((laws_lpAddr.f kj5 t704 t705 t708 t709 t661 ([]:List ByteArray) false (⟨#[]⟩:ByteArray)).bind fun t722=>(some t722)) else (none)) else (none))) = some r:=by first|(rw [hy717];with_reducible exact H)|(have H2_:=(Option.bind_some _ _).symm.trans H;rw [hy717];with_reducible exact H2_)|(have H2_:=(Option.bind_some _ _).symm.trans H;with_reducible exact H2_)|with_reducible exact H|(rw [hy717];exact H)|exact H
            have Ny717:=Am hy717
            clear hy717
            replace H:=bI H
            obtain ⟨t721,A570,H⟩:=H
            replace H:(if t721 = true then (if t710 = true then ((laws_lpAddr.f kj5 t704 t705 t708 t709 t661 ([]:List ByteArray) false (⟨#[]⟩:ByteArray)).bind fun t722=>(some t722)) else (none)) else (none)) = some r:=H
            have A57:=Am A570
            clear A570
            by_cases c58:t721 = true
            ·subst c58
             have H1:(if t710 = true then ((laws_lpAddr.f kj5 t704 t705 t708 t709 t661 ([]:List ByteArray) false (⟨#[]⟩:ByteArray)).bind fun t722=>(some t722)) else (none)) = some r:=by rw [if_pos rfl] at H;exact H
             clear H
             have H:=H1
             clear H1
             by_cases c59:t710 = true
             ·subst c59
              have H1:((laws_lpAddr.f kj5 t704 t705 t708 t709 t661 ([]:List ByteArray) false (⟨#[]⟩:ByteArray)).bind fun t722=>(some t722)) = some r:=by rw [if_pos rfl] at H;exact H
              clear H
              have H:=H1
              clear H1
              replace H:=bI H
              obtain ⟨t722,A600,H⟩:=H
              replace H:(some t722) = some r:=H
              have A60:=Am A600
              clear A600
              obtain rfl:=Option.some.inj H
              have hnb61:=NB668_676.out
              have hnc61:=NB676_668.out
              have hnb62:=NB668_684.out
              have hnc62:=NB684_668.out
              obtain ⟨hcz63_0,hcz63_1,hcz63_2,hcz63_3,hfz63_0,hfz63_1,hfz63_2,hfz63_3⟩:=bX BK668.out







              try go_wp2_with (first|((with_reducible refine gate_callee (f:=13) rfl ?_);refine goesL_ (some 60) rfl rfl Tryd.func13 (by kernel_rfl) rfl #[.agg #[.string t661, .slice Ao10 t662.length co10, .bool t665, .string t666], .string (⟨#[46]⟩:ByteArray)] rfl (aE2 rfl rfl) ?_;(with_reducible refine (impl_AddrJoin.calls kj5 t661 _ _ t662 t665 t666 (⟨#[46]⟩:ByteArray) t688 t689 t692 t693 true _ ?side1 ?side2 A44.out).mono ?_);(case side1=>repeat (first|exact (Kd.R_reads' HO_669001.out).2.2|(with_reducible refine bC ?_)));(case side2=>exact (Kd.R_reads' HO_669001.out).2.1);rintro e w64 ⟨v690,rfl,ho0,hb⟩;refine ⟨_,rfl,?_⟩;have n0_:=Am (Kd.R_elder' (bR HO_669001.out) (Kd.R_base ho0) hb);have n1_:=Am (Kd.R_elder' (bR HO_677001.out) (Kd.R_base ho0) hb);have n2_:=Am (Kd.R_elder' (bR HO_685001.out) (Kd.R_base ho0) hb);have n3_:=Am (Kd.R_lower (Kd.R_new' (Kd.R_new' (Kd.R_new' ho0 (Kd.R_lt (bR HO_669001.out))) (Kd.R_lt (bR HO_677001.out))) (Kd.R_lt (bR HO_685001.out))) (bU (by repeat (first|(with_reducible first|exact HB.out|apply bA|apply bN|apply bD|refine bS ?_ GE668.out|refine bS ?_ GE676.out|refine bS ?_ GE684.out)|exact HB.out))));have n4_:=Am (blk_below (bB BK668.out) hb);have n5_:=Am (blk_below (bB BK676.out) hb);have n6_:=Am (blk_below (bB BK684.out) hb);have n7_:=Am (bT (by repeat (first|(with_reducible first|exact HB.out|apply bA|apply bN|apply bD|refine bS ?_ GE668.out|refine bS ?_ GE676.out|refine bS ?_ GE684.out)|exact HB.out)) hb);clear HO_669001 HO_677001 HO_685001 BK668 BK676 BK684 HB;have HO_669001:=n0_;have HO_677001:=n1_;have HO_685001:=n2_;have HO691:=n3_;have BK668:=n4_;have BK676:=n5_;have BK684:=n6_;have HB:=n7_;clear n0_ n1_ n2_ n3_ n4_ n5_ n6_ n7_;(try clear hb);(try clear ho0))|((with_reducible refine gate_dst (N:=9) rfl ?_);(try (refine gate_guard (by rfl) ?_;dsimp only));refine box_event ?hg (N:=9) ?hd (cs:=#[.string (⟨#[]⟩:ByteArray), .slice none 0 0, .bool false, .string (⟨#[]⟩:ByteArray)]) (t:=25) ?hr ?_;(case hd=>rfl);(case hg=>rfl);(case hr=>(go_simp <;> rfl));intro gb695 hg w65 hbox hb;have n0_:=bH HO_669001 hb;have n1_:=bH HO_677001 hb;have n2_:=bH HO_685001 hb;have n3_:=bH HO691 hb;have n4_:=Am (blk_below (bB BK668.out) hb);have n5_:=Am (blk_below (bB BK676.out) hb);have n6_:=Am (blk_below (bB BK684.out) hb);have n7_:=Am (bT (by repeat (first|(with_reducible first|exact HB.out|apply bA|apply bN|apply bD|refine bS ?_ GE668.out|refine bS ?_ GE676.out|refine bS ?_ GE684.out)|exact HB.out)) hb);have n8_:=Am (hbox);have n9_:=Am ((by rw [hg];exact (bU (by repeat (first|(with_reducible first|exact HB.out|apply bA|apply bN|apply bD|refine bS ?_ GE668.out|refine bS ?_ GE676.out|refine bS ?_ GE684.out)|exact HB.out))):w.heap.size ≤ gb695));have n10_:=n9_;have n11_:=Am ((by rw [hg];exact Nat.ne_of_lt (blk_lt (bB BK668.out)):gb668 ≠ gb695));have n12_:=Am ((by rw [hg];exact Nat.ne_of_gt (blk_lt (bB BK668.out)):gb695 ≠ gb668));have n13_:=Am ((by rw [hg];exact Nat.ne_of_lt (blk_lt (bB BK676.out)):gb676 ≠ gb695));have n14_:=Am ((by rw [hg];exact Nat.ne_of_gt (blk_lt (bB BK676.out)):gb695 ≠ gb676));have n15_:=Am ((by rw [hg];exact Nat.ne_of_lt (blk_lt (bB BK684.out)):gb684 ≠ gb695));have n16_:=Am ((by rw [hg];exact Nat.ne_of_gt (blk_lt (bB BK684.out)):gb695 ≠ gb684));clear HO_669001 HO_677001 HO_685001 HO691 BK668 BK676 BK684 HB;have HO_669001:=n0_;have HO_677001:=n1_;have HO_685001:=n2_;have HO691:=n3_;have BK668:=n4_;have BK676:=n5_;have BK684:=n6_;have HB:=n7_;have BK695:=n8_;have GW695:=n9_;have GE695:=n10_;have NB668_695:=n11_;have NB695_668:=n12_;have NB676_695:=n13_;have NB695_676:=n14_;have NB684_695:=n15_;have NB695_684:=n16_;clear n0_ n1_ n2_ n3_ n4_ n5_ n6_ n7_ n8_ n9_ n10_ n11_ n12_ n13_ n14_ n15_ n16_ hb hbox hg;have hnb66:=NB695_668.out;have hnc66:=NB668_695.out;have hnb67:=NB695_676.out;have hnc67:=NB676_695.out;have hnb68:=NB695_684.out;have hnc68:=NB684_695.out;obtain ⟨hcz69_0,hcz69_1,hcz69_2,hcz69_3,hfz69_0,hfz69_1,hfz69_2,hfz69_3⟩:=bX BK695.out;obtain ⟨Ao70,co70,eo70⟩:=Kd.R_slice HO691.out;subst eo70;obtain ⟨hcz71_0,hcz71_1,hcz71_2,hcz71_3,hfz71_0,hfz71_1,hfz71_2,hfz71_3⟩:=bX BK668.out)|((with_reducible refine gate_callee (f:=13) rfl ?_);refine goesL_ (some 65) rfl rfl Tryd.func13 (by kernel_rfl) rfl #[.agg #[.string t661, .slice Ao10 t662.length co10, .bool t665, .string t666], .string (⟨#[46,46]⟩:ByteArray)] rfl (aE2 rfl rfl) ?_;(with_reducible refine (impl_AddrJoin.calls kj5 t661 _ _ t662 t665 t666 (⟨#[46,46]⟩:ByteArray) t696 t697 t700 t701 true _ ?side1 ?side2 A45.out).mono ?_);(case side1=>refine (Kd.R_reads' (e:=9) (base:=w.heap.size) (ok:=fun k_=>((some k_ ≠ (.slice Ao15 t670.length co15:Value).ownBlock ∧ some k_ ≠ (.slice Ao22 t678.length co22:Value).ownBlock) ∧ some k_ ≠ (.slice Ao70 t689.length co70:Value).ownBlock)) (n:=t662.length) (c:=co10) ?_).2.2;exact (by (with_reducible repeat (first|apply rA|apply rN|apply rD));exact (bQ HO_669001.out BK695.out (by decide) _ _ _ _)));(case side2=>exact (Kd.R_reads' HO_669001.out).2.1);rintro e w72 ⟨v698,rfl,ho0,hb⟩;refine ⟨_,rfl,?_⟩;have n0_:=Am (Kd.R_elder' (by (with_reducible repeat (first|apply rA|apply rN|apply rD));exact (bQ HO_669001.out BK695.out (by decide) _ _ _ _)) (Kd.R_base ho0) hb);have n1_:=Am (Kd.R_elder' (by (with_reducible repeat (first|apply rA|apply rN|apply rD));exact (bQ HO_677001.out BK695.out (by decide) _ _ _ _)) (Kd.R_base ho0) hb);have n2_:=Am (Kd.R_elder' (by (with_reducible repeat (first|apply rA|apply rN|apply rD));exact (bQ HO_685001.out BK695.out (by decide) _ _ _ _)) (Kd.R_base ho0) hb);have n3_:=Am (Kd.R_elder' (by (with_reducible repeat (first|apply rA|apply rN|apply rD));exact (bQ HO691.out BK695.out (by decide) _ _ _ _)) (Kd.R_base ho0) hb);have n4_:=Am (Kd.R_lower (Kd.R_new' (Kd.R_new' (Kd.R_new' (Kd.R_new' ho0 (Kd.R_lt (by (with_reducible repeat (first|apply rA|apply rN|apply rD));exact (bQ HO_669001.out BK695.out (by decide) _ _ _ _)))) (Kd.R_lt (by (with_reducible repeat (first|apply rA|apply rN|apply rD));exact (bQ HO_677001.out BK695.out (by decide) _ _ _ _)))) (Kd.R_lt (by (with_reducible repeat (first|apply rA|apply rN|apply rD));exact (bQ HO_685001.out BK695.out (by decide) _ _ _ _)))) (Kd.R_lt (by (with_reducible repeat (first|apply rA|apply rN|apply rD));exact (bQ HO691.out BK695.out (by decide) _ _ _ _)))) (bU (by repeat (first|(with_reducible first|exact HB.out|apply bA|apply bN|apply bD|refine bS ?_ GE668.out|refine bS ?_ GE676.out|refine bS ?_ GE684.out|refine bS ?_ GE695.out)|exact HB.out))));have n5_:=Am (blk_below (g:=gb668) (o:=.cells #[.string t661, .slice Ao10 t662.length co10, .bool t665, .string t666] 25 (0,0)) (by refine bB ?_;refine bF ?_ NB668_695.out;refine bB ?_;exact BK668.out) hb);have n6_:=Am (blk_below (g:=gb676) (o:=.cells #[.string t669, .slice Ao15 t670.length co15, .bool t673, .string t674] 25 (0,0)) (by refine bB ?_;refine bF ?_ NB676_695.out;refine bB ?_;exact BK676.out) hb);have n7_:=Am (blk_below (g:=gb684) (o:=.cells #[.string t677, .slice Ao22 t678.length co22, .bool t681, .string t682] 25 (0,0)) (by refine bB ?_;refine bF ?_ NB684_695.out;refine bB ?_;exact BK684.out) hb);have n8_:=Am (blk_below (g:=gb695) (o:=.cells #[.string t688, .slice Ao70 t689.length co70, .bool t692, .string t693] 25 (0,0)) (by refine bB ?_;apply bP;refine bB ?_;exact BK695.out) hb);have n9_:=Am (bT (by repeat (first|(with_reducible first|exact HB.out|apply bA|apply bN|apply bD|refine bS ?_ GE668.out|refine bS ?_ GE676.out|refine bS ?_ GE684.out|refine bS ?_ GE695.out)|exact HB.out)) hb);clear HO_669001 HO_677001 HO_685001 HO691 BK668 BK676 BK684 BK695 HB;have HO_669001:=n0_;have HO_677001:=n1_;have HO_685001:=n2_;have HO691:=n3_;have HO699:=n4_;have BK668:=n5_;have BK676:=n6_;have BK684:=n7_;have BK695:=n8_;have HB:=n9_;clear n0_ n1_ n2_ n3_ n4_ n5_ n6_ n7_ n8_ n9_;(try clear hb);(try clear ho0))|((with_reducible refine gate_dst (N:=11) rfl ?_);(try (refine gate_guard (by rfl) ?_;dsimp only));refine box_event ?hg (N:=11) ?hd (cs:=#[.string (⟨#[]⟩:ByteArray), .slice none 0 0, .bool false, .string (⟨#[]⟩:ByteArray)]) (t:=25) ?hr ?_;(case hd=>rfl);(case hg=>rfl);(case hr=>(go_simp <;> rfl));intro gb703 hg w73 hbox hb;have n0_:=bH HO_669001 hb;have n1_:=bH HO_677001 hb;have n2_:=bH HO_685001 hb;have n3_:=bH HO691 hb;have n4_:=bH HO699 hb;have n5_:=Am (blk_below (bB BK668.out) hb);have n6_:=Am (blk_below (bB BK676.out) hb);have n7_:=Am (blk_below (bB BK684.out) hb);have n8_:=Am (blk_below (bB BK695.out) hb);have n9_:=Am (bT (by repeat (first|(with_reducible first|exact HB.out|apply bA|apply bN|apply bD|refine bS ?_ GE668.out|refine bS ?_ GE676.out|refine bS ?_ GE684.out|refine bS ?_ GE695.out)|exact HB.out)) hb);have n10_:=Am (hbox);have n11_:=Am ((by rw [hg];exact (bU (by repeat (first|(with_reducible first|exact HB.out|apply bA|apply bN|apply bD|refine bS ?_ GE668.out|refine bS ?_ GE676.out|refine bS ?_ GE684.out|refine bS ?_ GE695.out)|exact HB.out))):w.heap.size ≤ gb703));have n12_:=n11_;have n13_:=Am ((by rw [hg];exact Nat.ne_of_lt (blk_lt (bB BK668.out)):gb668 ≠ gb703));have n14_:=Am ((by rw [hg];exact Nat.ne_of_gt (blk_lt (bB BK668.out)):gb703 ≠ gb668));have n15_:=Am ((by rw [hg];exact Nat.ne_of_lt (blk_lt (bB BK676.out)):gb676 ≠ gb703));have n16_:=Am ((by rw [hg];exact Nat.ne_of_gt (blk_lt (bB BK676.out)):gb703 ≠ gb676));have n17_:=Am ((by rw [hg];exact Nat.ne_of_lt (blk_lt (bB BK684.out)):gb684 ≠ gb703));have n18_:=Am ((by rw [hg];exact Nat.ne_of_gt (blk_lt (bB BK684.out)):gb703 ≠ gb684));have n19_:=Am ((by rw [hg];exact Nat.ne_of_lt (blk_lt (bB BK695.out)):gb695 ≠ gb703));have n20_:=Am ((by rw [hg];exact Nat.ne_of_gt (blk_lt (bB BK695.out)):gb703 ≠ gb695));clear HO_669001 HO_677001 HO_685001 HO691 HO699 BK668 BK676 BK684 BK695 HB;have HO_669001:=n0_;have HO_677001:=n1_;have HO_685001:=n2_;have HO691:=n3_;have HO699:=n4_;have BK668:=n5_;have BK676:=n6_;have BK684:=n7_;have BK695:=n8_;have HB:=n9_;have BK703:=n10_;have GW703:=n11_;have GE703:=n12_;have NB668_703:=n13_;have NB703_668:=n14_;have NB676_703:=n15_;have NB703_676:=n16_;have NB684_703:=n17_;have NB703_684:=n18_;have NB695_703:=n19_;have NB703_695:=n20_;clear n0_ n1_ n2_ n3_ n4_ n5_ n6_ n7_ n8_ n9_ n10_ n11_ n12_ n13_ n14_ n15_ n16_ n17_ n18_ n19_ n20_ hb hbox hg;have hnb74:=NB703_668.out;have hnc74:=NB668_703.out;have hnb75:=NB703_676.out;have hnc75:=NB676_703.out;have hnb76:=NB703_684.out;have hnc76:=NB684_703.out;have hnb77:=NB703_695.out;have hnc77:=NB695_703.out;obtain ⟨hcz78_0,hcz78_1,hcz78_2,hcz78_3,hfz78_0,hfz78_1,hfz78_2,hfz78_3⟩:=bX BK703.out;obtain ⟨Ao79,co79,eo79⟩:=Kd.R_slice HO699.out;subst eo79;obtain ⟨hcz80_0,hcz80_1,hcz80_2,hcz80_3,hfz80_0,hfz80_1,hfz80_2,hfz80_3⟩:=bX BK668.out)|((with_reducible refine gate_callee (f:=13) rfl ?_);refine goesL_ (some 70) rfl rfl Tryd.func13 (by kernel_rfl) rfl #[.agg #[.string t661, .slice Ao10 t662.length co10, .bool t665, .string t666], .string (⟨#[47]⟩:ByteArray)] rfl (aE2 rfl rfl) ?_;(with_reducible refine (impl_AddrJoin.calls kj5 t661 _ _ t662 t665 t666 (⟨#[47]⟩:ByteArray) t704 t705 t708 t709 true _ ?side1 ?side2 A46.out).mono ?_);(case side1=>refine (Kd.R_reads' (e:=9) (base:=w.heap.size) (ok:=fun k_=>(((some k_ ≠ (.slice Ao15 t670.length co15:Value).ownBlock ∧ some k_ ≠ (.slice Ao22 t678.length co22:Value).ownBlock) ∧ some k_ ≠ (.slice Ao70 t689.length co70:Value).ownBlock) ∧ some k_ ≠ (.slice Ao79 t697.length co79:Value).ownBlock)) (n:=t662.length) (c:=co10) ?_).2.2;exact (by (with_reducible repeat (first|apply rA|apply rN|apply rD));exact (bQ HO_669001.out BK703.out (by decide) _ _ _ _)));(case side2=>exact (Kd.R_reads' HO_669001.out).2.1);rintro e w81 ⟨v706,rfl,ho0,hb⟩;refine ⟨_,rfl,?_⟩;have n0_:=Am (Kd.R_elder' (by (with_reducible repeat (first|apply rA|apply rN|apply rD));exact (bQ HO_669001.out BK703.out (by decide) _ _ _ _)) (Kd.R_base ho0) hb);have n1_:=Am (Kd.R_elder' (by (with_reducible repeat (first|apply rA|apply rN|apply rD));exact (bQ HO_677001.out BK703.out (by decide) _ _ _ _)) (Kd.R_base ho0) hb);have n2_:=Am (Kd.R_elder' (by (with_reducible repeat (first|apply rA|apply rN|apply rD));exact (bQ HO_685001.out BK703.out (by decide) _ _ _ _)) (Kd.R_base ho0) hb);have n3_:=Am (Kd.R_elder' (by (with_reducible repeat (first|apply rA|apply rN|apply rD));exact (bQ HO691.out BK703.out (by decide) _ _ _ _)) (Kd.R_base ho0) hb);have n4_:=Am (Kd.R_elder' (by (with_reducible repeat (first|apply rA|apply rN|apply rD));exact (bQ HO699.out BK703.out (by decide) _ _ _ _)) (Kd.R_base ho0) hb);have n5_:=Am (Kd.R_lower (Kd.R_new' (Kd.R_new' (Kd.R_new' (Kd.R_new' (Kd.R_new' ho0 (Kd.R_lt (by (with_reducible repeat (first|apply rA|apply rN|apply rD));exact (bQ HO_669001.out BK703.out (by decide) _ _ _ _)))) (Kd.R_lt (by (with_reducible repeat (first|apply rA|apply rN|apply rD));exact (bQ HO_677001.out BK703.out (by decide) _ _ _ _)))) (Kd.R_lt (by (with_reducible repeat (first|apply rA|apply rN|apply rD));exact (bQ HO_685001.out BK703.out (by decide) _ _ _ _)))) (Kd.R_lt (by (with_reducible repeat (first|apply rA|apply rN|apply rD));exact (bQ HO691.out BK703.out (by decide) _ _ _ _)))) (Kd.R_lt (by (with_reducible repeat (first|apply rA|apply rN|apply rD));exact (bQ HO699.out BK703.out (by decide) _ _ _ _)))) (bU (by repeat (first|(with_reducible first|exact HB.out|apply bA|apply bN|apply bD|refine bS ?_ GE668.out|refine bS ?_ GE676.out|refine bS ?_ GE684.out|refine bS ?_ GE695.out|refine bS ?_ GE703.out)|exact HB.out))));have n6_:=Am (blk_below (g:=gb668) (o:=.cells #[.string t661, .slice Ao10 t662.length co10, .bool t665, .string t666] 25 (0,0)) (by refine bB ?_;refine bF ?_ NB668_703.out;refine bB ?_;exact BK668.out) hb);have n7_:=Am (blk_below (g:=gb676) (o:=.cells #[.string t669, .slice Ao15 t670.length co15, .bool t673, .string t674] 25 (0,0)) (by refine bB ?_;refine bF ?_ NB676_703.out;refine bB ?_;exact BK676.out) hb);have n8_:=Am (blk_below (g:=gb684) (o:=.cells #[.string t677, .slice Ao22 t678.length co22, .bool t681, .string t682] 25 (0,0)) (by refine bB ?_;refine bF ?_ NB684_703.out;refine bB ?_;exact BK684.out) hb);have n9_:=Am (blk_below (g:=gb695) (o:=.cells #[.string t688, .slice Ao70 t689.length co70, .bool t692, .string t693] 25 (0,0)) (by refine bB ?_;refine bF ?_ NB695_703.out;refine bB ?_;exact BK695.out) hb);have n10_:=Am (blk_below (g:=gb703) (o:=.cells #[.string t696, .slice Ao79 t697.length co79, .bool t700, .string t701] 25 (0,0)) (by refine bB ?_;apply bP;refine bB ?_;exact BK703.out) hb);have n11_:=Am (bT (by repeat (first|(with_reducible first|exact HB.out|apply bA|apply bN|apply bD|refine bS ?_ GE668.out|refine bS ?_ GE676.out|refine bS ?_ GE684.out|refine bS ?_ GE695.out|refine bS ?_ GE703.out)|exact HB.out)) hb);clear HO_669001 HO_677001 HO_685001 HO691 HO699 BK668 BK676 BK684 BK695 BK703 HB;have HO_669001:=n0_;have HO_677001:=n1_;have HO_685001:=n2_;have HO691:=n3_;have HO699:=n4_;have HO707:=n5_;have BK668:=n6_;have BK676:=n7_;have BK684:=n8_;have BK695:=n9_;have BK703:=n10_;have HB:=n11_;clear n0_ n1_ n2_ n3_ n4_ n5_ n6_ n7_ n8_ n9_ n10_ n11_;(try clear hb);(try clear ho0))|((with_reducible refine gate_dst (N:=13) rfl ?_);(try (refine gate_guard (by rfl) ?_;dsimp only));refine box_event ?hg (N:=13) ?hd (cs:=#[.string (⟨#[]⟩:ByteArray), .slice none 0 0, .bool false, .string (⟨#[]⟩:ByteArray)]) (t:=25) ?hr ?_;(case hd=>rfl);(case hg=>rfl);(case hr=>(go_simp <;> rfl));intro gb711 hg w82 hbox hb;have n0_:=bH HO_669001 hb;have n1_:=bH HO_677001 hb;have n2_:=bH HO_685001 hb;have n3_:=bH HO691 hb;have n4_:=bH HO699 hb;have n5_:=bH HO707 hb;have n6_:=Am (blk_below (bB BK668.out) hb);have n7_:=Am (blk_below (bB BK676.out) hb);have n8_:=Am (blk_below (bB BK684.out) hb);have n9_:=Am (blk_below (bB BK695.out) hb);have n10_:=Am (blk_below (bB BK703.out) hb);have n11_:=Am (bT (by repeat (first|(with_reducible first|exact HB.out|apply bA|apply bN|apply bD|refine bS ?_ GE668.out|refine bS ?_ GE676.out|refine bS ?_ GE684.out|refine bS ?_ GE695.out|refine bS ?_ GE703.out)|exact HB.out)) hb);have n12_:=Am (hbox);have n13_:=Am ((by rw [hg];exact (bU (by repeat (first|(with_reducible first|exact HB.out|apply bA|apply bN|apply bD|refine bS ?_ GE668.out|refine bS ?_ GE676.out|refine bS ?_ GE684.out|refine bS ?_ GE695.out|refine bS ?_ GE703.out)|exact HB.out))):w.heap.size ≤ gb711));have n14_:=n13_;have n15_:=Am ((by rw [hg];exact Nat.ne_of_lt (blk_lt (bB BK668.out)):gb668 ≠ gb711));have n16_:=Am ((by rw [hg];exact Nat.ne_of_gt (blk_lt (bB BK668.out)):gb711 ≠ gb668));have n17_:=Am ((by rw [hg];exact Nat.ne_of_lt (blk_lt (bB BK676.out)):gb676 ≠ gb711));have n18_:=Am ((by rw [hg];exact Nat.ne_of_gt (blk_lt (bB BK676.out)):gb711 ≠ gb676));have n19_:=Am ((by rw [hg];exact Nat.ne_of_lt (blk_lt (bB BK684.out)):gb684 ≠ gb711));have n20_:=Am ((by rw [hg];exact Nat.ne_of_gt (blk_lt (bB BK684.out)):gb711 ≠ gb684));have n21_:=Am ((by rw [hg];exact Nat.ne_of_lt (blk_lt (bB BK695.out)):gb695 ≠ gb711));have n22_:=Am ((by rw [hg];exact Nat.ne_of_gt (blk_lt (bB BK695.out)):gb711 ≠ gb695));have n23_:=Am ((by rw [hg];exact Nat.ne_of_lt (blk_lt (bB BK703.out)):gb703 ≠ gb711));have n24_:=Am ((by rw [hg];exact Nat.ne_of_gt (blk_lt (bB BK703.out)):gb711 ≠ gb703));clear HO_669001 HO_677001 HO_685001 HO691 HO699 HO707 BK668 BK676 BK684 BK695 BK703 HB;have HO_669001:=n0_;have HO_677001:=n1_;have HO_685001:=n2_;have HO691:=n3_;have HO699:=n4_;have HO707:=n5_;have BK668:=n6_;have BK676:=n7_;have BK684:=n8_;have BK695:=n9_;have BK703:=n10_;have HB:=n11_;have BK711:=n12_;have GW711:=n13_;have GE711:=n14_;have NB668_711:=n15_;have NB711_668:=n16_;have NB676_711:=n17_;have NB711_676:=n18_;have NB684_711:=n19_;have NB711_684:=n20_;have NB695_711:=n21_;have NB711_695:=n22_;have NB703_711:=n23_;have NB711_703:=n24_;clear n0_ n1_ n2_ n3_ n4_ n5_ n6_ n7_ n8_ n9_ n10_ n11_ n12_ n13_ n14_ n15_ n16_ n17_ n18_ n19_ n20_ n21_ n22_ n23_ n24_ hb hbox hg;have hnb83:=NB711_668.out;have hnc83:=NB668_711.out;have hnb84:=NB711_676.out;have hnc84:=NB676_711.out;have hnb85:=NB711_684.out;have hnc85:=NB684_711.out;have hnb86:=NB711_695.out;have hnc86:=NB695_711.out;have hnb87:=NB711_703.out;have hnc87:=NB703_711.out;obtain ⟨hcz88_0,hcz88_1,hcz88_2,hcz88_3,hfz88_0,hfz88_1,hfz88_2,hfz88_3⟩:=bX BK711.out;obtain ⟨Ao89,co89,eo89⟩:=Kd.R_slice HO707.out;subst eo89;obtain ⟨hcz90_0,hcz90_1,hcz90_2,hcz90_3,hfz90_0,hfz90_1,hfz90_2,hfz90_3⟩:=bX BK668.out))
              have n0_:Aside0 (Kd.R Kd.string 9 ((((w82.setCell ⟨gb711,0,none⟩ (.string t704)).setCell ⟨gb711,1,none⟩ (.slice Ao89 t705.length co89)).setCell ⟨gb711,2,none⟩ (.bool t708)).setCell ⟨gb711,3,none⟩ (.string t709)) w.heap.size (fun k_=>some k_ ≠ (.slice Ao15 t670.length co15:Value).ownBlock ∧ some k_ ≠ (.slice Ao22 t678.length co22:Value).ownBlock ∧ some k_ ≠ (.slice Ao70 t689.length co70:Value).ownBlock ∧ some k_ ≠ (.slice Ao79 t697.length co79:Value).ownBlock ∧ some k_ ≠ (.slice Ao89 t705.length co89:Value).ownBlock) (.slice Ao10 t662.length co10) t662):=⟨by (with_reducible repeat (first|apply rA|apply rN|apply rD));exact Kd.R_mono (Kd.R_far (p:=⟨gb711,3,none⟩) (Kd.R_far (p:=⟨gb711,2,none⟩) (Kd.R_far (p:=⟨gb711,1,none⟩) (Kd.R_far (p:=⟨gb711,0,none⟩) (Kd.R_types HO_669001.out BK711.out (by decide)) (fun _ hk=>hk.2) (.string t704)) (fun _ hk=>hk.2) (.slice Ao89 t705.length co89)) (fun _ hk=>hk.2) (.bool t708)) (fun _ hk=>hk.2) (.string t709)) (fun _ hk=>⟨hk.1.1.1.1.1,⟨hk.1.1.1.1.2,⟨hk.1.1.1.2,⟨hk.1.1.2,hk.1.2⟩⟩⟩⟩)⟩
              have n1_:Aside0 (Kd.R Kd.string 9 ((((w82.setCell ⟨gb711,0,none⟩ (.string t704)).setCell ⟨gb711,1,none⟩ (.slice Ao89 t705.length co89)).setCell ⟨gb711,2,none⟩ (.bool t708)).setCell ⟨gb711,3,none⟩ (.string t709)) w.heap.size (fun k_=>some k_ ≠ (.slice Ao10 t662.length co10:Value).ownBlock ∧ some k_ ≠ (.slice Ao22 t678.length co22:Value).ownBlock ∧ some k_ ≠ (.slice Ao70 t689.length co70:Value).ownBlock ∧ some k_ ≠ (.slice Ao79 t697.length co79:Value).ownBlock ∧ some k_ ≠ (.slice Ao89 t705.length co89:Value).ownBlock) (.slice Ao15 t670.length co15) t670):=⟨by (with_reducible repeat (first|apply rA|apply rN|apply rD));exact Kd.R_mono (Kd.R_far (p:=⟨gb711,3,none⟩) (Kd.R_far (p:=⟨gb711,2,none⟩) (Kd.R_far (p:=⟨gb711,1,none⟩) (Kd.R_far (p:=⟨gb711,0,none⟩) (Kd.R_types HO_677001.out BK711.out (by decide)) (fun _ hk=>hk.2) (.string t704)) (fun _ hk=>hk.2) (.slice Ao89 t705.length co89)) (fun _ hk=>hk.2) (.bool t708)) (fun _ hk=>hk.2) (.string t709)) (fun _ hk=>⟨hk.1.1.1.1.1,⟨hk.1.1.1.1.2,⟨hk.1.1.1.2,⟨hk.1.1.2,hk.1.2⟩⟩⟩⟩)⟩
              have n2_:Aside0 (Kd.R Kd.string 9 ((((w82.setCell ⟨gb711,0,none⟩ (.string t704)).setCell ⟨gb711,1,none⟩ (.slice Ao89 t705.length co89)).setCell ⟨gb711,2,none⟩ (.bool t708)).setCell ⟨gb711,3,none⟩ (.string t709)) w.heap.size (fun k_=>some k_ ≠ (.slice Ao10 t662.length co10:Value).ownBlock ∧ some k_ ≠ (.slice Ao15 t670.length co15:Value).ownBlock ∧ some k_ ≠ (.slice Ao70 t689.length co70:Value).ownBlock ∧ some k_ ≠ (.slice Ao79 t697.length co79:Value).ownBlock ∧ some k_ ≠ (.slice Ao89 t705.length co89:Value).ownBlock) (.slice Ao22 t678.length co22) t678):=⟨by (with_reducible repeat (first|apply rA|apply rN|apply rD));exact Kd.R_mono (Kd.R_far (p:=⟨gb711,3,none⟩) (Kd.R_far (p:=⟨gb711,2,none⟩) (Kd.R_far (p:=⟨gb711,1,none⟩) (Kd.R_far (p:=⟨gb711,0,none⟩) (Kd.R_types HO_685001.out BK711.out (by decide)) (fun _ hk=>hk.2) (.string t704)) (fun _ hk=>hk.2) (.slice Ao89 t705.length co89)) (fun _ hk=>hk.2) (.bool t708)) (fun _ hk=>hk.2) (.string t709)) (fun _ hk=>⟨hk.1.1.1.1.1,⟨hk.1.1.1.1.2,⟨hk.1.1.1.2,⟨hk.1.1.2,hk.1.2⟩⟩⟩⟩)⟩
              have n3_:Aside0 (Kd.R Kd.string 9 ((((w82.setCell ⟨gb711,0,none⟩ (.string t704)).setCell ⟨gb711,1,none⟩ (.slice Ao89 t705.length co89)).setCell ⟨gb711,2,none⟩ (.bool t708)).setCell ⟨gb711,3,none⟩ (.string t709)) w.heap.size (fun k_=>some k_ ≠ (.slice Ao10 t662.length co10:Value).ownBlock ∧ some k_ ≠ (.slice Ao15 t670.length co15:Value).ownBlock ∧ some k_ ≠ (.slice Ao22 t678.length co22:Value).ownBlock ∧ some k_ ≠ (.slice Ao79 t697.length co79:Value).ownBlock ∧ some k_ ≠ (.slice Ao89 t705.length co89:Value).ownBlock) (.slice Ao70 t689.length co70) t689):=⟨by (with_reducible repeat (first|apply rA|apply rN|apply rD));exact Kd.R_mono (Kd.R_far (p:=⟨gb711,3,none⟩) (Kd.R_far (p:=⟨gb711,2,none⟩) (Kd.R_far (p:=⟨gb711,1,none⟩) (Kd.R_far (p:=⟨gb711,0,none⟩) (Kd.R_types HO691.out BK711.out (by decide)) (fun _ hk=>hk.2) (.string t704)) (fun _ hk=>hk.2) (.slice Ao89 t705.length co89)) (fun _ hk=>hk.2) (.bool t708)) (fun _ hk=>hk.2) (.string t709)) (fun _ hk=>⟨hk.1.1.1.1.1.2,⟨hk.1.1.1.1.2,⟨hk.1.1.1.2,⟨hk.1.1.2,hk.1.2⟩⟩⟩⟩)⟩
              have n4_:Aside0 (Kd.R Kd.string 9 ((((w82.setCell ⟨gb711,0,none⟩ (.string t704)).setCell ⟨gb711,1,none⟩ (.slice Ao89 t705.length co89)).setCell ⟨gb711,2,none⟩ (.bool t708)).setCell ⟨gb711,3,none⟩ (.string t709)) w.heap.size (fun k_=>some k_ ≠ (.slice Ao10 t662.length co10:Value).ownBlock ∧ some k_ ≠ (.slice Ao15 t670.length co15:Value).ownBlock ∧ some k_ ≠ (.slice Ao22 t678.length co22:Value).ownBlock ∧ some k_ ≠ (.slice Ao70 t689.length co70:Value).ownBlock ∧ some k_ ≠ (.slice Ao89 t705.length co89:Value).ownBlock) (.slice Ao79 t697.length co79) t697):=⟨by (with_reducible repeat (first|apply rA|apply rN|apply rD));exact Kd.R_mono (Kd.R_far (p:=⟨gb711,3,none⟩) (Kd.R_far (p:=⟨gb711,2,none⟩) (Kd.R_far (p:=⟨gb711,1,none⟩) (Kd.R_far (p:=⟨gb711,0,none⟩) (Kd.R_types HO699.out BK711.out (by decide)) (fun _ hk=>hk.2) (.string t704)) (fun _ hk=>hk.2) (.slice Ao89 t705.length co89)) (fun _ hk=>hk.2) (.bool t708)) (fun _ hk=>hk.2) (.string t709)) (fun _ hk=>⟨hk.1.1.1.1.1.2,⟨hk.1.1.1.1.2,⟨hk.1.1.1.2,⟨hk.1.1.2,hk.1.2⟩⟩⟩⟩)⟩
              have n5_:Aside0 (Kd.R Kd.string 9 ((((w82.setCell ⟨gb711,0,none⟩ (.string t704)).setCell ⟨gb711,1,none⟩ (.slice Ao89 t705.length co89)).setCell ⟨gb711,2,none⟩ (.bool t708)).setCell ⟨gb711,3,none⟩ (.string t709)) w.heap.size (fun k_=>some k_ ≠ (.slice Ao10 t662.length co10:Value).ownBlock ∧ some k_ ≠ (.slice Ao15 t670.length co15:Value).ownBlock ∧ some k_ ≠ (.slice Ao22 t678.length co22:Value).ownBlock ∧ some k_ ≠ (.slice Ao70 t689.length co70:Value).ownBlock ∧ some k_ ≠ (.slice Ao79 t697.length co79:Value).ownBlock) (.slice Ao89 t705.length co89) t705):=⟨by (with_reducible repeat (first|apply rA|apply rN|apply rD));exact Kd.R_mono (Kd.R_far (p:=⟨gb711,3,none⟩) (Kd.R_far (p:=⟨gb711,2,none⟩) (Kd.R_far (p:=⟨gb711,1,none⟩) (Kd.R_far (p:=⟨gb711,0,none⟩) (Kd.R_types HO707.out BK711.out (by decide)) (fun _ hk=>hk.2) (.string t704)) (fun _ hk=>hk.2) (.slice Ao89 t705.length co89)) (fun _ hk=>hk.2) (.bool t708)) (fun _ hk=>hk.2) (.string t709)) (fun _ hk=>⟨hk.1.1.1.1.1.2,⟨hk.1.1.1.1.2,⟨hk.1.1.1.2,⟨hk.1.1.2,hk.1.2⟩⟩⟩⟩)⟩
              have n6_:Aside0 (((((w82.setCell ⟨gb711,0,none⟩ (.string t704)).setCell ⟨gb711,1,none⟩ (.slice Ao89 t705.length co89)).setCell ⟨gb711,2,none⟩ (.bool t708)).setCell ⟨gb711,3,none⟩ (.string t709)).heap[gb668]? = some (.cells #[.string t661, .slice Ao10 t662.length co10, .bool t665, .string t666] 25 (0,0))):=⟨by refine bB ?_;refine bF ?_ NB668_711.out;refine bB ?_;exact BK668.out⟩
              have n7_:Aside0 (((((w82.setCell ⟨gb711,0,none⟩ (.string t704)).setCell ⟨gb711,1,none⟩ (.slice Ao89 t705.length co89)).setCell ⟨gb711,2,none⟩ (.bool t708)).setCell ⟨gb711,3,none⟩ (.string t709)).heap[gb676]? = some (.cells #[.string t669, .slice Ao15 t670.length co15, .bool t673, .string t674] 25 (0,0))):=⟨by refine bB ?_;refine bF ?_ NB676_711.out;refine bB ?_;exact BK676.out⟩
              have n8_:Aside0 (((((w82.setCell ⟨gb711,0,none⟩ (.string t704)).setCell ⟨gb711,1,none⟩ (.slice Ao89 t705.length co89)).setCell ⟨gb711,2,none⟩ (.bool t708)).setCell ⟨gb711,3,none⟩ (.string t709)).heap[gb684]? = some (.cells #[.string t677, .slice Ao22 t678.length co22, .bool t681, .string t682] 25 (0,0))):=⟨by refine bB ?_;refine bF ?_ NB684_711.out;refine bB ?_;exact BK684.out⟩
              have n9_:Aside0 (((((w82.setCell ⟨gb711,0,none⟩ (.string t704)).setCell ⟨gb711,1,none⟩ (.slice Ao89 t705.length co89)).setCell ⟨gb711,2,none⟩ (.bool t708)).setCell ⟨gb711,3,none⟩ (.string t709)).heap[gb695]? = some (.cells #[.string t688, .slice Ao70 t689.length co70, .bool t692, .string t693] 25 (0,0))):=⟨by refine bB ?_;refine bF ?_ NB695_711.out;refine bB ?_;exact BK695.out⟩
              have n10_:Aside0 (((((w82.setCell ⟨gb711,0,none⟩ (.string t704)).setCell ⟨gb711,1,none⟩ (.slice Ao89 t705.length co89)).setCell ⟨gb711,2,none⟩ (.bool t708)).setCell ⟨gb711,3,none⟩ (.string t709)).heap[gb703]? = some (.cells #[.string t696, .slice Ao79 t697.length co79, .bool t700, .string t701] 25 (0,0))):=⟨by refine bB ?_;refine bF ?_ NB703_711.out;refine bB ?_;exact BK703.out⟩
              have n11_:Aside0 (((((w82.setCell ⟨gb711,0,none⟩ (.string t704)).setCell ⟨gb711,1,none⟩ (.slice Ao89 t705.length co89)).setCell ⟨gb711,2,none⟩ (.bool t708)).setCell ⟨gb711,3,none⟩ (.string t709)).heap[gb711]? = some (.cells #[.string t704, .slice Ao89 t705.length co89, .bool t708, .string t709] 25 (0,0))):=⟨by refine bB ?_;apply bP;refine bB ?_;exact BK711.out⟩
              have n12_:Aside0 (Below w.heap.size w ((((w82.setCell ⟨gb711,0,none⟩ (.string t704)).setCell ⟨gb711,1,none⟩ (.slice Ao89 t705.length co89)).setCell ⟨gb711,2,none⟩ (.bool t708)).setCell ⟨gb711,3,none⟩ (.string t709))):=⟨by repeat (first|(with_reducible first|exact HB.out|apply bA|apply bN|apply bD|refine bS ?_ GE668.out|refine bS ?_ GE676.out|refine bS ?_ GE684.out|refine bS ?_ GE695.out|refine bS ?_ GE703.out|refine bS ?_ GE711.out)|exact HB.out)⟩
              (try clear HO_669001)
              (try clear HO_677001)
              (try clear HO_685001)
              (try clear HO691)
              (try clear HO699)
              (try clear HO707)
              (try clear BK668)
              (try clear BK676)
              (try clear BK684)
              (try clear BK695)
              (try clear BK703)
              (try clear BK711)
              (try clear HB)
              generalize ((((w82.setCell ⟨gb711,0,none⟩ (.string t704)).setCell ⟨gb711,1,none⟩ (.slice Ao89 t705.length co89)).setCell ⟨gb711,2,none⟩ (.bool t708)).setCell ⟨gb711,3,none⟩ (.string t709)) = w91 at n0_ n1_ n2_ n3_ n4_ n5_ n6_ n7_ n8_ n9_ n10_ n11_ n12_ ⊢
              have HO_669001:=n0_
              have HO_677001:=n1_
              have HO_685001:=n2_
              have HO691:=n3_
              have HO699:=n4_
              have HO707:=n5_
              have BK668:=n6_
              have BK676:=n7_
              have BK684:=n8_
              have BK695:=n9_
              have BK703:=n10_
              have BK711:=n11_
              have HB:=n12_
              clear n0_ n1_ n2_ n3_ n4_ n5_ n6_ n7_ n8_ n9_ n10_ n11_ n12_
              have n0_:=Am (Kd.R_drew HO_669001.out)
              have n1_:=Am (Kd.R_drew HO_677001.out)
              have n2_:=Am (Kd.R_drew HO_685001.out)
              have n3_:=Am (Kd.R_drew HO691.out)
              have n4_:=Am (Kd.R_drew HO699.out)
              have n5_:=Am (Kd.R_drew HO707.out)
              have n6_:=Am (blk_drew BK668.out)
              have n7_:=Am (blk_drew BK676.out)
              have n8_:=Am (blk_drew BK684.out)
              have n9_:=Am (blk_drew BK695.out)
              have n10_:=Am (blk_drew BK703.out)
              have n11_:=Am (blk_drew BK711.out)
              have n12_:=Am (below_drew1 HB.out)
              clear HO_669001
              clear HO_677001
              clear HO_685001
              clear HO691
              clear HO699
              clear HO707
              clear BK668
              clear BK676
              clear BK684
              clear BK695
              clear BK703
              clear BK711
              clear HB
              have HO_669001:=n0_
              have HO_677001:=n1_
              have HO_685001:=n2_
              have HO691:=n3_
              have HO699:=n4_
              have HO707:=n5_
              have BK668:=n6_
              have BK676:=n7_
              have BK684:=n8_
              have BK695:=n9_
              have BK703:=n10_
              have BK711:=n11_
              have HB:=n12_
              clear n0_ n1_ n2_ n3_ n4_ n5_ n6_ n7_ n8_ n9_ n10_ n11_ n12_
              have q93:((ji48):Int) ≤ ((t662.length:Int):Int):=oD (by assumption)
              obtain ⟨i093,hi093,_,hsz93,_⟩:=info_parts info9
              have hroom93:t662.length ≤ co10:=(Kd.R_reads' HO_669001.out).2.1
              have hC93:Kd.C Kd.string _ Ao10 t662.length t662:=(Kd.R_reads' HO_669001.out).2.2
              have hcut93:=cut_to (P:=Tryd.prog) 23 9 .i64 Tryd.underlying23 hi093 Ao10 t662.length co10 (ji48) (oD (by assumption)) q93 hroom93
              have hr93:=Kd.C_take (m:=((ji48):Int).toNat) hC93 (by omega)
              have hy93:y712.length = ((ji48):Int).toNat:=(by rw [Ny712.out,List.length_take];omega)
              rw [← Ny712.out] at hr93
              rw [← hy93] at hcut93
              have HR715:=Am hr93
              have HC715:=Am (show y712.length ≤ co10 from by omega)
              clear hr93 hC93 hroom93 hi093 hsz93
              have KY93:=Am hy93
              clear hy93
              have KL93:=Am (show ((ji48):Int).toNat ≤ t662.length from by omega)
              replace q93:=eq_true q93
              refine start_ (n:=41) (S:=fun w'=>w'.cell? ⟨gb695,0,none⟩ = some (.string t688) ∧ w'.cell? ⟨gb695,1,none⟩ = some (.slice Ao70 t689.length co70) ∧ w'.cell? ⟨gb695,2,none⟩ = some (.bool t692) ∧ w'.cell? ⟨gb695,3,none⟩ = some (.string t693) ∧ w'.cell? ⟨gb668,0,none⟩ = some (.string t661) ∧ w'.cell? ⟨gb668,1,none⟩ = some (.slice Ao10 t662.length co10) ∧ w'.cell? ⟨gb668,2,none⟩ = some (.bool t665) ∧ w'.cell? ⟨gb668,3,none⟩ = some (.string t666) ∧ w'.cell? ⟨gb703,0,none⟩ = some (.string t696) ∧ w'.cell? ⟨gb703,1,none⟩ = some (.slice Ao79 t697.length co79) ∧ w'.cell? ⟨gb703,2,none⟩ = some (.bool t700) ∧ w'.cell? ⟨gb703,3,none⟩ = some (.string t701) ∧ w'.cell? ⟨gb711,0,none⟩ = some (.string t704) ∧ w'.cell? ⟨gb711,1,none⟩ = some (.slice Ao89 t705.length co89) ∧ w'.cell? ⟨gb711,2,none⟩ = some (.bool t708) ∧ w'.cell? ⟨gb711,3,none⟩ = some (.string t709)) (ds:=[]) #[false,false,false,false,false,false,false,false,false,false,false,false,false,false,false,false,false,false,false,false,false,false,false,false,false,false,false,false,false,false,false,false,false,false,false,false,false,false,false,false,false] (by kernel_rfl) rfl rfl ⟨bM BK695.out 0 rfl,bM BK695.out 1 rfl,bM BK695.out 2 rfl,bM BK695.out 3 rfl,bM BK668.out 0 rfl,bM BK668.out 1 rfl,bM BK668.out 2 rfl,bM BK668.out 3 rfl,bM BK703.out 0 rfl,bM BK703.out 1 rfl,bM BK703.out 2 rfl,bM BK703.out 3 rfl,bM BK711.out 0 rfl,bM BK711.out 1 rfl,bM BK711.out 2 rfl,bM BK711.out 3 rfl⟩ (fun hHeld=>?_);refine with_tabW laws_FnJoinUp.tab12 laws_FnJoinUp.bits12 (fun HT_ HW_=>?_)
              generalize w91.drew = w92 at HO_669001 HO_677001 HO_685001 HO691 HO699 HO707 BK668 BK676 BK684 BK695 BK703 BK711 HB HR715 hHeld ⊢
              refine pure_ (i:=0) (N:=some 76) (v:=?_) (a':=?_) #[true,false,false,false,false,false,false,false,false,false,false,false,false,false,false,false,false,false,false,false,false,false,false,false,false,false,false,false,false,false,false,false,false,false,false,false,false,false,false,false,false] rfl rfl (any_of HT_.out (by kernel_rfl)) (fun _ _ _ h=>h) (Or.inl ⟨by rfl,?_⟩) ?_ ?_
              rotate_left
              ·intro w'
               go_simp
               with_reducible rfl
              rotate_left
              ·simp only [Act.put,lT,lZ,lS,i64_w,i32_w]
               rfl
              refine pure_ (i:=1) (N:=some 77) (v:=?_) (a':=?_) #[true,true,false,false,false,false,false,false,false,false,false,false,false,false,false,false,false,false,false,false,false,false,false,false,false,false,false,false,false,false,false,false,false,false,false,false,false,false,false,false,false] rfl rfl (any_of HT_.out (by kernel_rfl)) (fun _ _ _ h=>h) (Or.inl ⟨by rfl,?_⟩) ?_ ?_
              rotate_left
              ·intro w'
               go_simp
               with_reducible rfl
              rotate_left
              ·simp only [Act.put,lT,lZ,lS,i64_w,i32_w]
               rfl
              refine pure_ (i:=3) (N:=some 79) (v:=?_) (a':=?_) #[true,true,false,true,false,false,false,false,false,false,false,false,false,false,false,false,false,false,false,false,false,false,false,false,false,false,false,false,false,false,false,false,false,false,false,false,false,false,false,false,false] rfl rfl (any_of HT_.out (by kernel_rfl)) (fun _ _ _ h=>h) (Or.inl ⟨by rfl,?_⟩) ?_ ?_
              rotate_left
              ·intro w'
               go_simp
               with_reducible rfl
              rotate_left
              ·simp only [Act.put,lT,lZ,lS,i64_w,i32_w]
               rfl
              refine pure_ (i:=5) (N:=some 81) (v:=?_) (a':=?_) #[true,true,false,true,false,true,false,false,false,false,false,false,false,false,false,false,false,false,false,false,false,false,false,false,false,false,false,false,false,false,false,false,false,false,false,false,false,false,false,false,false] rfl rfl (any_of HT_.out (by kernel_rfl)) (fun _ _ _ h=>h) (Or.inl ⟨by rfl,?_⟩) ?_ ?_
              rotate_left
              ·intro w'
               go_simp
               with_reducible rfl
              rotate_left
              ·simp only [Act.put,lT,lZ,lS,i64_w,i32_w]
               rfl
              refine pure_ (i:=7) (N:=some 83) (v:=?_) (a':=?_) #[true,true,false,true,false,true,false,true,false,false,false,false,false,false,false,false,false,false,false,false,false,false,false,false,false,false,false,false,false,false,false,false,false,false,false,false,false,false,false,false,false] rfl rfl (any_of HT_.out (by kernel_rfl)) (fun _ _ _ h=>h) (Or.inl ⟨by rfl,?_⟩) ?_ ?_
              rotate_left
              ·intro w'
               go_simp
               with_reducible rfl
              rotate_left
              ·simp only [Act.put,lT,lZ,lS,i64_w,i32_w]
               rfl
              refine pure_ (i:=8) (N:=some 84) (v:=?_) (a':=?_) #[true,true,false,true,false,true,false,true,true,false,false,false,false,false,false,false,false,false,false,false,false,false,false,false,false,false,false,false,false,false,false,false,false,false,false,false,false,false,false,false,false] rfl rfl (any_of HT_.out (by kernel_rfl)) (fun _ _ _ h=>h) (Or.inl ⟨by rfl,?_⟩) ?_ ?_
              rotate_left
              ·intro w'
               go_simp
               with_reducible rfl
              rotate_left
              ·simp only [Act.put,lT,lZ,lS,i64_w,i32_w]
               rfl
              refine pure_ (i:=9) (N:=some 85) (v:=?_) (a':=?_) #[true,true,false,true,false,true,false,true,true,true,false,false,false,false,false,false,false,false,false,false,false,false,false,false,false,false,false,false,false,false,false,false,false,false,false,false,false,false,false,false,false] rfl rfl (any_of HT_.out (by kernel_rfl)) (fun _ _ _ h=>h) (Or.inl ⟨by rfl,?_⟩) ?_ ?_
              rotate_left
              ·intro w'
               go_simp
               with_reducible rfl
              rotate_left
              ·simp only [Act.put,lT,lZ,lS,i64_w,i32_w]
               rfl
              refine take_ (i:=2) (N:=some 78) (v:=?_) (a':=?_) #[true,true,true,true,false,true,false,true,true,true,false,false,false,false,false,false,false,false,false,false,false,false,false,false,false,false,false,false,false,false,false,false,false,false,false,false,false,false,false,false,false] rfl rfl (take_ofW HT_.out HW_.out (by kernel_rfl)) (fun _ _ _ h=>h) (Or.inl ⟨by rfl,?_⟩) hHeld ?_ ?_
              rotate_left
              ·rintro w' ⟨s0,s1,s2,s3,s4,s5,s6,s7,s8,s9,s10,s11,s12,s13,s14,s15⟩
               go_simp
               with_reducible rfl
              rotate_left
              ·simp only [Act.put,lT,lZ,lS,i64_w,i32_w]
               rfl
              refine take_ (i:=4) (N:=some 80) (v:=?_) (a':=?_) #[true,true,true,true,true,true,false,true,true,true,false,false,false,false,false,false,false,false,false,false,false,false,false,false,false,false,false,false,false,false,false,false,false,false,false,false,false,false,false,false,false] rfl rfl (take_ofW HT_.out HW_.out (by kernel_rfl)) (fun _ _ _ h=>h) (Or.inl ⟨by rfl,?_⟩) hHeld ?_ ?_
              rotate_left
              ·rintro w' ⟨s0,s1,s2,s3,s4,s5,s6,s7,s8,s9,s10,s11,s12,s13,s14,s15⟩
               go_simp
               with_reducible rfl
              rotate_left
              ·simp only [Act.put,lT,lZ,lS,i64_w,i32_w]
               rfl
              refine take_ (i:=6) (N:=some 82) (v:=?_) (a':=?_) #[true,true,true,true,true,true,true,true,true,true,false,false,false,false,false,false,false,false,false,false,false,false,false,false,false,false,false,false,false,false,false,false,false,false,false,false,false,false,false,false,false] rfl rfl (take_ofW HT_.out HW_.out (by kernel_rfl)) (fun _ _ _ h=>h) (Or.inl ⟨by rfl,?_⟩) hHeld ?_ ?_
              rotate_left
              ·rintro w' ⟨s0,s1,s2,s3,s4,s5,s6,s7,s8,s9,s10,s11,s12,s13,s14,s15⟩
               go_simp
               with_reducible rfl
              rotate_left
              ·simp only [Act.put,lT,lZ,lS,i64_w,i32_w]
               rfl
              refine pure_ (i:=10) (N:=some 86) (v:=?_) (a':=?_) #[true,true,true,true,true,true,true,true,true,true,true,false,false,false,false,false,false,false,false,false,false,false,false,false,false,false,false,false,false,false,false,false,false,false,false,false,false,false,false,false,false] rfl rfl (any_of HT_.out (by kernel_rfl)) (fun _ _ _ h=>h) (Or.inl ⟨by rfl,?_⟩) ?_ ?_
              rotate_left
              ·intro w'
               go_simp
               with_reducible rfl
              rotate_left
              ·simp only [Act.put,lT,lZ,lS,i64_w,i32_w]
               rfl
              refine pure_ (i:=11) (N:=some 87) (v:=?_) (a':=?_) #[true,true,true,true,true,true,true,true,true,true,true,true,false,false,false,false,false,false,false,false,false,false,false,false,false,false,false,false,false,false,false,false,false,false,false,false,false,false,false,false,false] rfl rfl (any_of HT_.out (by kernel_rfl)) (fun _ _ _ h=>h) (Or.inl ⟨by rfl,?_⟩) ?_ ?_
              rotate_left
              ·intro w'
               go_simp
               with_reducible rfl
              rotate_left
              ·simp only [Act.put,lT,lZ,lS,i64_w,i32_w]
               rfl
              refine one_ (i:=12) (N:=some 88) #[true,true,true,true,true,true,true,true,true,true,true,true,true,false,false,false,false,false,false,false,false,false,false,false,false,false,false,false,false,false,false,false,false,false,false,false,false,false,false,false,false] rfl rfl (one_of HT_.out (by kernel_rfl)) (by decide) (fun K hK=>?_)
              refine goes_ Tryd.func14 (by kernel_rfl) rfl #[.agg #[.string t688, .slice Ao70 t689.length co70, .bool t692, .string t693], .agg #[.string t661, .slice Ao10 y712.length co10, .bool false, .string (⟨#[]⟩:ByteArray)]] (by rfl) rfl rfl (by (try simp only [List.map_toArray,List.map_cons,List.map_nil]);first|done|rfl|(simp only [List.length_drop,List.length_take];rfl)) ?_
              with_reducible refine (laws_lpAddr.calls kj5 t688 _ _ t689 t692 t693 t661 _ _ y712 false (⟨#[]⟩:ByteArray) true _ ?side1 ?side2 ?side3 ?side4 A51.out).mono ?_
              (case side1=>repeat (first|exact (Kd.R_reads' HO691.out).2.2|(with_reducible refine bC ?_)))
              (case side2=>exact (Kd.R_reads' HO691.out).2.1)
              (case side3=>repeat (first|exact (by repeat (first|(with_reducible exact HR715.out)|(with_reducible refine bC ?_)|exact HR715.out))|(with_reducible refine bC ?_)))
              (case side4=>exact HC715.out)
              rintro e w94 ⟨rfl,hb⟩
              refine ⟨_,rfl,?_⟩
              have n0_:=bH HO_669001 hb
              have n1_:=bH HO_677001 hb
              have n2_:=bH HO_685001 hb
              have n3_:=bH HO691 hb
              have n4_:=bH HO699 hb
              have n5_:=bH HO707 hb
              have n6_:=Am (blk_below (bB BK668.out) hb)
              have n7_:=Am (blk_below (bB BK676.out) hb)
              have n8_:=Am (blk_below (bB BK684.out) hb)
              have n9_:=Am (blk_below (bB BK695.out) hb)
              have n10_:=Am (blk_below (bB BK703.out) hb)
              have n11_:=Am (blk_below (bB BK711.out) hb)
              have n12_:=Am (Kd.C_below (by repeat (first|(with_reducible exact HR715.out)|(with_reducible refine bC ?_)|exact HR715.out)) hb)
              have n13_:=Am (bT (by repeat (first|(with_reducible first|exact HB.out|apply bA|apply bN|apply bD|refine bS ?_ GE668.out|refine bS ?_ GE676.out|refine bS ?_ GE684.out|refine bS ?_ GE695.out|refine bS ?_ GE703.out|refine bS ?_ GE711.out)|exact HB.out)) hb)
              clear HO_669001
              clear HO_677001
              clear HO_685001
              clear HO691
              clear HO699
              clear HO707
              clear BK668
              clear BK676
              clear BK684
              clear BK695
              clear BK703
              clear BK711
              clear HR715
              clear HB
              have HO_669001:=n0_
              have HO_677001:=n1_
              have HO_685001:=n2_
              have HO691:=n3_
              have HO699:=n4_
              have HO707:=n5_
              have BK668:=n6_
              have BK676:=n7_
              have BK684:=n8_
              have BK695:=n9_
              have BK703:=n10_
              have BK711:=n11_
              have HR715:=n12_
              have HB:=n13_
              clear n0_ n1_ n2_ n3_ n4_ n5_ n6_ n7_ n8_ n9_ n10_ n11_ n12_ n13_
              (try clear hb)
              (try clear hb2)
              (try clear hk)
              (try clear hi)
              have q95:((ji54):Int) ≤ ((t662.length:Int):Int):=oD (by assumption)
              obtain ⟨i095,hi095,_,hsz95,_⟩:=info_parts info9
              have hroom95:t662.length ≤ co10:=(Kd.R_reads' HO_669001.out).2.1
              have hC95:Kd.C Kd.string _ Ao10 t662.length t662:=(Kd.R_reads' HO_669001.out).2.2
              have hcut95:=cut_to (P:=Tryd.prog) 23 9 .i64 Tryd.underlying23 hi095 Ao10 t662.length co10 (ji54) (oD (by assumption)) q95 hroom95
              have hr95:=Kd.C_take (m:=((ji54):Int).toNat) hC95 (by omega)
              have hy95:y717.length = ((ji54):Int).toNat:=(by rw [Ny717.out,List.length_take];omega)
              rw [← Ny717.out] at hr95
              rw [← hy95] at hcut95
              have HR720:=Am hr95
              have HC720:=Am (show y717.length ≤ co10 from by omega)
              clear hr95 hC95 hroom95 hi095 hsz95
              have KY95:=Am hy95
              clear hy95
              have KL95:=Am (show ((ji54):Int).toNat ≤ t662.length from by omega)
              replace q95:=eq_true q95
              refine hK.out _ _ ⟨bM BK695.out 0 rfl,bM BK695.out 1 rfl,bM BK695.out 2 rfl,bM BK695.out 3 rfl,bM BK668.out 0 rfl,bM BK668.out 1 rfl,bM BK668.out 2 rfl,bM BK668.out 3 rfl,bM BK703.out 0 rfl,bM BK703.out 1 rfl,bM BK703.out 2 rfl,bM BK703.out 3 rfl,bM BK711.out 0 rfl,bM BK711.out 1 rfl,bM BK711.out 2 rfl,bM BK711.out 3 rfl⟩ (fun hHeld=>?_)
              clear hK K
              refine norm_ (a':=?_) ?_ ?_
              rotate_left
              ·show Act.put _ (some 88) _ = _
               simp only [Act.put,lT,lZ,lS,i64_w,i32_w]
               rfl
              refine pure_ (i:=13) (N:=some 89) (v:=?_) (a':=?_) #[true,true,true,true,true,true,true,true,true,true,true,true,true,true,false,false,false,false,false,false,false,false,false,false,false,false,false,false,false,false,false,false,false,false,false,false,false,false,false,false,false] rfl rfl (any_of HT_.out (by kernel_rfl)) (fun _ _ _ h=>h) (Or.inl ⟨by rfl,?_⟩) ?_ ?_
              rotate_left
              ·intro w'
               go_simp
               with_reducible rfl
              rotate_left
              ·simp only [Act.put,lT,lZ,lS,i64_w,i32_w]
               rfl
              refine pure_ (i:=14) (N:=some 90) (v:=?_) (a':=?_) #[true,true,true,true,true,true,true,true,true,true,true,true,true,true,true,false,false,false,false,false,false,false,false,false,false,false,false,false,false,false,false,false,false,false,false,false,false,false,false,false,false] rfl rfl (any_of HT_.out (by kernel_rfl)) (fun _ _ _ h=>h) (Or.inl ⟨by rfl,?_⟩) ?_ ?_
              rotate_left
              ·intro w'
               go_simp
               with_reducible rfl
              rotate_left
              ·simp only [Act.put,lT,lZ,lS,i64_w,i32_w]
               rfl
              refine pure_ (i:=15) (N:=some 91) (v:=?_) (a':=?_) #[true,true,true,true,true,true,true,true,true,true,true,true,true,true,true,true,false,false,false,false,false,false,false,false,false,false,false,false,false,false,false,false,false,false,false,false,false,false,false,false,false] rfl rfl (any_of HT_.out (by kernel_rfl)) (fun _ _ _ h=>h) (Or.inl ⟨by rfl,?_⟩) ?_ ?_
              rotate_left
              ·intro w'
               go_simp
               with_reducible rfl
              rotate_left
              ·simp only [Act.put,lT,lZ,lS,i64_w,i32_w]
               rfl
              refine pure_ (i:=16) (N:=some 92) (v:=?_) (a':=?_) #[true,true,true,true,true,true,true,true,true,true,true,true,true,true,true,true,true,false,false,false,false,false,false,false,false,false,false,false,false,false,false,false,false,false,false,false,false,false,false,false,false] rfl rfl (any_of HT_.out (by kernel_rfl)) (fun _ _ _ h=>h) (Or.inl ⟨by rfl,?_⟩) ?_ ?_
              rotate_left
              ·intro w'
               go_simp
               with_reducible rfl
              rotate_left
              ·simp only [Act.put,lT,lZ,lS,i64_w,i32_w]
               rfl
              refine pure_ (i:=17) (N:=some 93) (v:=?_) (a':=?_) #[true,true,true,true,true,true,true,true,true,true,true,true,true,true,true,true,true,true,false,false,false,false,false,false,false,false,false,false,false,false,false,false,false,false,false,false,false,false,false,false,false] rfl rfl (any_of HT_.out (by kernel_rfl)) (fun _ _ _ h=>h) (Or.inl ⟨by rfl,?_⟩) ?_ ?_
              rotate_left
              ·intro w'
               go_simp
               with_reducible rfl
              rotate_left
              ·simp only [Act.put,lT,lZ,lS,i64_w,i32_w]
               rfl
              refine pure_ (i:=19) (N:=some 95) (v:=?_) (a':=?_) #[true,true,true,true,true,true,true,true,true,true,true,true,true,true,true,true,true,true,false,true,false,false,false,false,false,false,false,false,false,false,false,false,false,false,false,false,false,false,false,false,false] rfl rfl (any_of HT_.out (by kernel_rfl)) (fun _ _ _ h=>h) (Or.inl ⟨by rfl,?_⟩) ?_ ?_
              rotate_left
              ·intro w'
               go_simp
               with_reducible rfl
              rotate_left
              ·simp only [Act.put,lT,lZ,lS,i64_w,i32_w]
               rfl
              refine pure_ (i:=21) (N:=some 97) (v:=?_) (a':=?_) #[true,true,true,true,true,true,true,true,true,true,true,true,true,true,true,true,true,true,false,true,false,true,false,false,false,false,false,false,false,false,false,false,false,false,false,false,false,false,false,false,false] rfl rfl (any_of HT_.out (by kernel_rfl)) (fun _ _ _ h=>h) (Or.inl ⟨by rfl,?_⟩) ?_ ?_
              rotate_left
              ·intro w'
               go_simp
               with_reducible rfl
              rotate_left
              ·simp only [Act.put,lT,lZ,lS,i64_w,i32_w]
               rfl
              refine pure_ (i:=23) (N:=some 99) (v:=?_) (a':=?_) #[true,true,true,true,true,true,true,true,true,true,true,true,true,true,true,true,true,true,false,true,false,true,false,true,false,false,false,false,false,false,false,false,false,false,false,false,false,false,false,false,false] rfl rfl (any_of HT_.out (by kernel_rfl)) (fun _ _ _ h=>h) (Or.inl ⟨by rfl,?_⟩) ?_ ?_
              rotate_left
              ·intro w'
               go_simp
               with_reducible rfl
              rotate_left
              ·simp only [Act.put,lT,lZ,lS,i64_w,i32_w]
               rfl
              refine pure_ (i:=24) (N:=some 100) (v:=?_) (a':=?_) #[true,true,true,true,true,true,true,true,true,true,true,true,true,true,true,true,true,true,false,true,false,true,false,true,true,false,false,false,false,false,false,false,false,false,false,false,false,false,false,false,false] rfl rfl (any_of HT_.out (by kernel_rfl)) (fun _ _ _ h=>h) (Or.inl ⟨by rfl,?_⟩) ?_ ?_
              rotate_left
              ·intro w'
               go_simp
               with_reducible rfl
              rotate_left
              ·simp only [Act.put,lT,lZ,lS,i64_w,i32_w]
               rfl
              refine pure_ (i:=25) (N:=some 101) (v:=?_) (a':=?_) #[true,true,true,true,true,true,true,true,true,true,true,true,true,true,true,true,true,true,false,true,false,true,false,true,true,true,false,false,false,false,false,false,false,false,false,false,false,false,false,false,false] rfl rfl (any_of HT_.out (by kernel_rfl)) (fun _ _ _ h=>h) (Or.inl ⟨by rfl,?_⟩) ?_ ?_
              rotate_left
              ·intro w'
               go_simp
               with_reducible rfl
              rotate_left
              ·simp only [Act.put,lT,lZ,lS,i64_w,i32_w]
               rfl
              refine take_ (i:=18) (N:=some 94) (v:=?_) (a':=?_) #[true,true,true,true,true,true,true,true,true,true,true,true,true,true,true,true,true,true,true,true,false,true,false,true,true,true,false,false,false,false,false,false,false,false,false,false,false,false,false,false,false] rfl rfl (take_ofW HT_.out HW_.out (by kernel_rfl)) (fun _ _ _ h=>h) (Or.inl ⟨by rfl,?_⟩) hHeld ?_ ?_
              rotate_left
              ·rintro w' ⟨s0,s1,s2,s3,s4,s5,s6,s7,s8,s9,s10,s11,s12,s13,s14,s15⟩
               go_simp
               with_reducible rfl
              rotate_left
              ·simp only [Act.put,lT,lZ,lS,i64_w,i32_w]
               rfl
              refine take_ (i:=20) (N:=some 96) (v:=?_) (a':=?_) #[true,true,true,true,true,true,true,true,true,true,true,true,true,true,true,true,true,true,true,true,true,true,false,true,true,true,false,false,false,false,false,false,false,false,false,false,false,false,false,false,false] rfl rfl (take_ofW HT_.out HW_.out (by kernel_rfl)) (fun _ _ _ h=>h) (Or.inl ⟨by rfl,?_⟩) hHeld ?_ ?_
              rotate_left
              ·rintro w' ⟨s0,s1,s2,s3,s4,s5,s6,s7,s8,s9,s10,s11,s12,s13,s14,s15⟩
               go_simp
               with_reducible rfl
              rotate_left
              ·simp only [Act.put,lT,lZ,lS,i64_w,i32_w]
               rfl
              refine take_ (i:=22) (N:=some 98) (v:=?_) (a':=?_) #[true,true,true,true,true,true,true,true,true,true,true,true,true,true,true,true,true,true,true,true,true,true,true,true,true,true,false,false,false,false,false,false,false,false,false,false,false,false,false,false,false] rfl rfl (take_ofW HT_.out HW_.out (by kernel_rfl)) (fun _ _ _ h=>h) (Or.inl ⟨by rfl,?_⟩) hHeld ?_ ?_
              rotate_left
              ·rintro w' ⟨s0,s1,s2,s3,s4,s5,s6,s7,s8,s9,s10,s11,s12,s13,s14,s15⟩
               go_simp
               with_reducible rfl
              rotate_left
              ·simp only [Act.put,lT,lZ,lS,i64_w,i32_w]
               rfl
              refine pure_ (i:=26) (N:=some 102) (v:=?_) (a':=?_) #[true,true,true,true,true,true,true,true,true,true,true,true,true,true,true,true,true,true,true,true,true,true,true,true,true,true,true,false,false,false,false,false,false,false,false,false,false,false,false,false,false] rfl rfl (any_of HT_.out (by kernel_rfl)) (fun _ _ _ h=>h) (Or.inl ⟨by rfl,?_⟩) ?_ ?_
              rotate_left
              ·intro w'
               go_simp
               with_reducible rfl
              rotate_left
              ·simp only [Act.put,lT,lZ,lS,i64_w,i32_w]
               rfl
              refine pure_ (i:=27) (N:=some 103) (v:=?_) (a':=?_) #[true,true,true,true,true,true,true,true,true,true,true,true,true,true,true,true,true,true,true,true,true,true,true,true,true,true,true,true,false,false,false,false,false,false,false,false,false,false,false,false,false] rfl rfl (any_of HT_.out (by kernel_rfl)) (fun _ _ _ h=>h) (Or.inl ⟨by rfl,?_⟩) ?_ ?_
              rotate_left
              ·intro w'
               go_simp
               with_reducible rfl
              rotate_left
              ·simp only [Act.put,lT,lZ,lS,i64_w,i32_w]
               rfl
              refine one_ (i:=28) (N:=some 104) #[true,true,true,true,true,true,true,true,true,true,true,true,true,true,true,true,true,true,true,true,true,true,true,true,true,true,true,true,true,false,false,false,false,false,false,false,false,false,false,false,false] rfl rfl (one_of HT_.out (by kernel_rfl)) (by decide) (fun K hK=>?_)
              refine goes_ Tryd.func14 (by kernel_rfl) rfl #[.agg #[.string t696, .slice Ao79 t697.length co79, .bool t700, .string t701], .agg #[.string t661, .slice Ao10 y717.length co10, .bool false, .string (⟨#[]⟩:ByteArray)]] (by rfl) rfl rfl (by (try simp only [List.map_toArray,List.map_cons,List.map_nil]);first|done|rfl|(simp only [List.length_drop,List.length_take];rfl)) ?_
              with_reducible refine (laws_lpAddr.calls kj5 t696 _ _ t697 t700 t701 t661 _ _ y717 false (⟨#[]⟩:ByteArray) true _ ?side1 ?side2 ?side3 ?side4 A57.out).mono ?_
              (case side1=>repeat (first|exact (Kd.R_reads' HO699.out).2.2|(with_reducible refine bC ?_)))
              (case side2=>exact (Kd.R_reads' HO699.out).2.1)
              (case side3=>repeat (first|exact (by repeat (first|(with_reducible exact HR720.out)|(with_reducible refine bC ?_)|exact HR720.out))|(with_reducible refine bC ?_)))
              (case side4=>exact HC720.out)
              rintro e w96 ⟨rfl,hb⟩
              refine ⟨_,rfl,?_⟩
              have n0_:=bH HO_669001 hb
              have n1_:=bH HO_677001 hb
              have n2_:=bH HO_685001 hb
              have n3_:=bH HO691 hb
              have n4_:=bH HO699 hb
              have n5_:=bH HO707 hb
              have n6_:=Am (blk_below (bB BK668.out) hb)
              have n7_:=Am (blk_below (bB BK676.out) hb)
              have n8_:=Am (blk_below (bB BK684.out) hb)
              have n9_:=Am (blk_below (bB BK695.out) hb)
              have n10_:=Am (blk_below (bB BK703.out) hb)
              have n11_:=Am (blk_below (bB BK711.out) hb)
              have n12_:=Am (Kd.C_below (by repeat (first|(with_reducible exact HR715.out)|(with_reducible refine bC ?_)|exact HR715.out)) hb)
              have n13_:=Am (Kd.C_below (by repeat (first|(with_reducible exact HR720.out)|(with_reducible refine bC ?_)|exact HR720.out)) hb)
              have n14_:=Am (bT (by repeat (first|(with_reducible first|exact HB.out|apply bA|apply bN|apply bD|refine bS ?_ GE668.out|refine bS ?_ GE676.out|refine bS ?_ GE684.out|refine bS ?_ GE695.out|refine bS ?_ GE703.out|refine bS ?_ GE711.out)|exact HB.out)) hb)
              clear HO_669001
              clear HO_677001
              clear HO_685001
              clear HO691
              clear HO699
              clear HO707
              clear BK668
              clear BK676
              clear BK684
              clear BK695
              clear BK703
              clear BK711
              clear HR715
              clear HR720
              clear HB
              have HO_669001:=n0_
              have HO_677001:=n1_
              have HO_685001:=n2_
              have HO691:=n3_
              have HO699:=n4_
              have HO707:=n5_
              have BK668:=n6_
              have BK676:=n7_
              have BK684:=n8_
              have BK695:=n9_
              have BK703:=n10_
              have BK711:=n11_
              have HR715:=n12_
              have HR720:=n13_
              have HB:=n14_
              clear n0_ n1_ n2_ n3_ n4_ n5_ n6_ n7_ n8_ n9_ n10_ n11_ n12_ n13_ n14_
              (try clear hb)
              (try clear hb2)
              (try clear hk)
              (try clear hi)
              refine hK.out _ _ ⟨bM BK695.out 0 rfl,bM BK695.out 1 rfl,bM BK695.out 2 rfl,bM BK695.out 3 rfl,bM BK668.out 0 rfl,bM BK668.out 1 rfl,bM BK668.out 2 rfl,bM BK668.out 3 rfl,bM BK703.out 0 rfl,bM BK703.out 1 rfl,bM BK703.out 2 rfl,bM BK703.out 3 rfl,bM BK711.out 0 rfl,bM BK711.out 1 rfl,bM BK711.out 2 rfl,bM BK711.out 3 rfl⟩ (fun hHeld=>?_)
              clear hK K
              refine norm_ (a':=?_) ?_ ?_
              rotate_left
              ·show Act.put _ (some 104) _ = _
               simp only [Act.put,lT,lZ,lS,i64_w,i32_w]
               rfl
              refine pure_ (i:=29) (N:=some 105) (v:=?_) (a':=?_) #[true,true,true,true,true,true,true,true,true,true,true,true,true,true,true,true,true,true,true,true,true,true,true,true,true,true,true,true,true,true,false,false,false,false,false,false,false,false,false,false,false] rfl rfl (any_of HT_.out (by kernel_rfl)) (fun _ _ _ h=>h) (Or.inl ⟨by rfl,?_⟩) ?_ ?_
              rotate_left
              ·intro w'
               go_simp
               with_reducible rfl
              rotate_left
              ·simp only [Act.put,lT,lZ,lS,i64_w,i32_w]
               rfl
              refine pure_ (i:=30) (N:=some 106) (v:=?_) (a':=?_) #[true,true,true,true,true,true,true,true,true,true,true,true,true,true,true,true,true,true,true,true,true,true,true,true,true,true,true,true,true,true,true,false,false,false,false,false,false,false,false,false,false] rfl rfl (any_of HT_.out (by kernel_rfl)) (fun _ _ _ h=>h) (Or.inl ⟨by rfl,?_⟩) ?_ ?_
              rotate_left
              ·intro w'
               go_simp
               with_reducible rfl
              rotate_left
              ·simp only [Act.put,lT,lZ,lS,i64_w,i32_w]
               rfl
              refine pure_ (i:=31) (N:=some 107) (v:=?_) (a':=?_) #[true,true,true,true,true,true,true,true,true,true,true,true,true,true,true,true,true,true,true,true,true,true,true,true,true,true,true,true,true,true,true,true,false,false,false,false,false,false,false,false,false] rfl rfl (any_of HT_.out (by kernel_rfl)) (fun _ _ _ h=>h) (Or.inl ⟨by rfl,?_⟩) ?_ ?_
              rotate_left
              ·intro w'
               go_simp
               with_reducible rfl
              rotate_left
              ·simp only [Act.put,lT,lZ,lS,i64_w,i32_w]
               rfl
              refine pure_ (i:=32) (N:=some 108) (v:=?_) (a':=?_) #[true,true,true,true,true,true,true,true,true,true,true,true,true,true,true,true,true,true,true,true,true,true,true,true,true,true,true,true,true,true,true,true,true,false,false,false,false,false,false,false,false] rfl rfl (any_of HT_.out (by kernel_rfl)) (fun _ _ _ h=>h) (Or.inl ⟨by rfl,?_⟩) ?_ ?_
              rotate_left
              ·intro w'
               go_simp
               with_reducible rfl
              rotate_left
              ·simp only [Act.put,lT,lZ,lS,i64_w,i32_w]
               rfl
              refine pure_ (i:=33) (N:=some 109) (v:=?_) (a':=?_) #[true,true,true,true,true,true,true,true,true,true,true,true,true,true,true,true,true,true,true,true,true,true,true,true,true,true,true,true,true,true,true,true,true,true,false,false,false,false,false,false,false] rfl rfl (any_of HT_.out (by kernel_rfl)) (fun _ _ _ h=>h) (Or.inl ⟨by rfl,?_⟩) ?_ ?_
              rotate_left
              ·intro w'
               go_simp
               with_reducible rfl
              rotate_left
              ·simp only [Act.put,lT,lZ,lS,i64_w,i32_w]
               rfl
              refine pure_ (i:=35) (N:=some 111) (v:=?_) (a':=?_) #[true,true,true,true,true,true,true,true,true,true,true,true,true,true,true,true,true,true,true,true,true,true,true,true,true,true,true,true,true,true,true,true,true,true,false,true,false,false,false,false,false] rfl rfl (any_of HT_.out (by kernel_rfl)) (fun _ _ _ h=>h) (Or.inl ⟨by rfl,?_⟩) ?_ ?_
              rotate_left
              ·intro w'
               go_simp
               with_reducible rfl
              rotate_left
              ·simp only [Act.put,lT,lZ,lS,i64_w,i32_w]
               rfl
              refine take_ (i:=34) (N:=some 110) (v:=?_) (a':=?_) #[true,true,true,true,true,true,true,true,true,true,true,true,true,true,true,true,true,true,true,true,true,true,true,true,true,true,true,true,true,true,true,true,true,true,true,true,false,false,false,false,false] rfl rfl (take_ofW HT_.out HW_.out (by kernel_rfl)) (fun _ _ _ h=>h) (Or.inl ⟨by rfl,?_⟩) hHeld ?_ ?_
              rotate_left
              ·rintro w' ⟨s0,s1,s2,s3,s4,s5,s6,s7,s8,s9,s10,s11,s12,s13,s14,s15⟩
               go_simp
               with_reducible rfl
              rotate_left
              ·simp only [Act.put,lT,lZ,lS,i64_w,i32_w]
               rfl
              refine take_ (i:=36) (N:=some 112) (v:=?_) (a':=?_) #[true,true,true,true,true,true,true,true,true,true,true,true,true,true,true,true,true,true,true,true,true,true,true,true,true,true,true,true,true,true,true,true,true,true,true,true,true,false,false,false,false] rfl rfl (take_ofW HT_.out HW_.out (by kernel_rfl)) (fun _ _ _ h=>h) (Or.inl ⟨by rfl,?_⟩) hHeld ?_ ?_
              rotate_left
              ·rintro w' ⟨s0,s1,s2,s3,s4,s5,s6,s7,s8,s9,s10,s11,s12,s13,s14,s15⟩
               go_simp
               with_reducible rfl
              rotate_left
              ·simp only [Act.put,lT,lZ,lS,i64_w,i32_w]
               rfl
              refine pure_ (i:=37) (N:=some 113) (v:=?_) (a':=?_) #[true,true,true,true,true,true,true,true,true,true,true,true,true,true,true,true,true,true,true,true,true,true,true,true,true,true,true,true,true,true,true,true,true,true,true,true,true,true,false,false,false] rfl rfl (any_of HT_.out (by kernel_rfl)) (fun _ _ _ h=>h) (Or.inl ⟨by rfl,?_⟩) ?_ ?_
              rotate_left
              ·intro w'
               go_simp
               with_reducible rfl
              rotate_left
              ·simp only [Act.put,lT,lZ,lS,i64_w,i32_w]
               rfl
              refine one_ (i:=38) (N:=some 114) #[true,true,true,true,true,true,true,true,true,true,true,true,true,true,true,true,true,true,true,true,true,true,true,true,true,true,true,true,true,true,true,true,true,true,true,true,true,true,true,false,false] rfl rfl (one_of HT_.out (by kernel_rfl)) (by decide) (fun K hK=>?_)
              refine goes_ Tryd.func14 (by kernel_rfl) rfl #[.agg #[.string t704, .slice Ao89 t705.length co89, .bool t708, .string t709], .agg #[.string t661, .slice none 0 0, .bool false, .string (⟨#[]⟩:ByteArray)]] (by rfl) rfl rfl (by (try simp only [List.map_toArray,List.map_cons,List.map_nil]);first|done|rfl|(simp only [List.length_drop,List.length_take];rfl)) ?_
              refine (laws_lpAddr.calls kj5 t704 _ _ t705 t708 t709 t661 _ _ ([]:List ByteArray) false (⟨#[]⟩:ByteArray) t722 _ ?side1 ?side2 ?side3 ?side4 A60.out).mono ?_
              (case side1=>repeat (first|exact (Kd.R_reads' HO707.out).2.2|(with_reducible refine bC ?_)))
              (case side2=>exact (Kd.R_reads' HO707.out).2.1)
              (case side3=>exact Kd.C_nil _ _)
              (case side4=>exact Nat.le_refl _)
              rintro e w97 ⟨rfl,hb⟩
              refine ⟨_,rfl,?_⟩
              have n0_:=bH HO_669001 hb
              have n1_:=bH HO_677001 hb
              have n2_:=bH HO_685001 hb
              have n3_:=bH HO691 hb
              have n4_:=bH HO699 hb
              have n5_:=bH HO707 hb
              have n6_:=Am (blk_below (bB BK668.out) hb)
              have n7_:=Am (blk_below (bB BK676.out) hb)
              have n8_:=Am (blk_below (bB BK684.out) hb)
              have n9_:=Am (blk_below (bB BK695.out) hb)
              have n10_:=Am (blk_below (bB BK703.out) hb)
              have n11_:=Am (blk_below (bB BK711.out) hb)
              have n12_:=Am (Kd.C_below (by repeat (first|(with_reducible exact HR715.out)|(with_reducible refine bC ?_)|exact HR715.out)) hb)
              have n13_:=Am (Kd.C_below (by repeat (first|(with_reducible exact HR720.out)|(with_reducible refine bC ?_)|exact HR720.out)) hb)
              have n14_:=Am (bT (by repeat (first|(with_reducible first|exact HB.out|apply bA|apply bN|apply bD|refine bS ?_ GE668.out|refine bS ?_ GE676.out|refine bS ?_ GE684.out|refine bS ?_ GE695.out|refine bS ?_ GE703.out|refine bS ?_ GE711.out)|exact HB.out)) hb)
              clear HO_669001
              clear HO_677001
              clear HO_685001
              clear HO691
              clear HO699
              clear HO707
              clear BK668
              clear BK676
              clear BK684
              clear BK695
              clear BK703
              clear BK711
              clear HR715
              clear HR720
              clear HB
              have HO_669001:=n0_
              have HO_677001:=n1_
              have HO_685001:=n2_
              have HO691:=n3_
              have HO699:=n4_
              have HO707:=n5_
              have BK668:=n6_
              have BK676:=n7_
              have BK684:=n8_
              have BK695:=n9_
              have BK703:=n10_
              have BK711:=n11_
              have HR715:=n12_
              have HR720:=n13_
              have HB:=n14_
              clear n0_ n1_ n2_ n3_ n4_ n5_ n6_ n7_ n8_ n9_ n10_ n11_ n12_ n13_ n14_
              (try clear hb)
              (try clear hb2)
              (try clear hk)
              (try clear hi)
              refine hK.out _ _ ⟨bM BK695.out 0 rfl,bM BK695.out 1 rfl,bM BK695.out 2 rfl,bM BK695.out 3 rfl,bM BK668.out 0 rfl,bM BK668.out 1 rfl,bM BK668.out 2 rfl,bM BK668.out 3 rfl,bM BK703.out 0 rfl,bM BK703.out 1 rfl,bM BK703.out 2 rfl,bM BK703.out 3 rfl,bM BK711.out 0 rfl,bM BK711.out 1 rfl,bM BK711.out 2 rfl,bM BK711.out 3 rfl⟩ (fun hHeld=>?_)
              clear hK K
              refine norm_ (a':=?_) ?_ ?_
              rotate_left
              ·show Act.put _ (some 114) _ = _
               simp only [Act.put,lT,lZ,lS,i64_w,i32_w]
               rfl
              refine pure_ (i:=39) (N:=some 115) (v:=?_) (a':=?_) #[true,true,true,true,true,true,true,true,true,true,true,true,true,true,true,true,true,true,true,true,true,true,true,true,true,true,true,true,true,true,true,true,true,true,true,true,true,true,true,true,false] rfl rfl (any_of HT_.out (by kernel_rfl)) (fun _ _ _ h=>h) (Or.inl ⟨by rfl,?_⟩) ?_ ?_
              rotate_left
              ·intro w'
               go_simp
               with_reducible rfl
              rotate_left
              ·simp only [Act.put,lT,lZ,lS,i64_w,i32_w]
               rfl
              refine pure_ (i:=40) (N:=some 2) (v:=?_) (a':=?_) #[true,true,true,true,true,true,true,true,true,true,true,true,true,true,true,true,true,true,true,true,true,true,true,true,true,true,true,true,true,true,true,true,true,true,true,true,true,true,true,true,true] rfl rfl (any_of HT_.out (by kernel_rfl)) (fun _ _ _ h=>h) (Or.inl ⟨by rfl,?_⟩) ?_ ?_
              rotate_left
              ·intro w'
               go_simp
               with_reducible rfl
              rotate_left
              ·simp only [Act.put,lT,lZ,lS,i64_w,i32_w]
               rfl
              refine done_ (done_of HT_.out (by kernel_rfl)) ?_
              try go_wp2
              go_ret
              exact ⟨by first|rfl|(simp <;> rfl)|(simp only [← hji48,← hji54];first|rfl|(simp <;> rfl))|(simp [*] <;> rfl),by repeat (first|(with_reducible first|exact HB.out|apply bA|apply bN|apply bD|refine bS ?_ GE668.out|refine bS ?_ GE676.out|refine bS ?_ GE684.out|refine bS ?_ GE695.out|refine bS ?_ GE703.out|refine bS ?_ GE711.out)|exact HB.out)⟩
             ·replace c59:=Bool.eq_false_iff.mpr c59
              subst c59
              have H1:(none) = some r:=by rw [if_neg (show ¬ (false = true) by decide)] at H;exact H
              clear H
              have H:=H1
              clear H1
              exact absurd H (by simp)
            ·replace c58:=Bool.eq_false_iff.mpr c58
             subst c58
             have H1:(none) = some r:=by rw [if_neg (show ¬ (false = true) by decide)] at H;exact H
             clear H
             have H:=H1
             clear H1
             exact absurd H (by simp)
           ·rw [if_neg c56] at H
            exact absurd H (by simp)
          ·rw [if_neg c55] at H
           exact absurd H (by simp)
         ·replace c53:=Bool.eq_false_iff.mpr c53
          subst c53
          have H1:(none) = some r:=by rw [if_neg (show ¬ (false = true) by decide)] at H;exact H
          clear H
          have H:=H1
          clear H1
          exact absurd H (by simp)
        ·replace c52:=Bool.eq_false_iff.mpr c52
         subst c52
         have H1:(none) = some r:=by rw [if_neg (show ¬ (false = true) by decide)] at H;exact H
         clear H
         have H:=H1
         clear H1
         exact absurd H (by simp)
       ·rw [if_neg c50] at H
        exact absurd H (by simp)
      ·rw [if_neg c49] at H
       exact absurd H (by simp)
     ·replace c47:=Bool.eq_false_iff.mpr c47
      subst c47
      have H1:(none) = some r:=by rw [if_neg (show ¬ (false = true) by decide)] at H;exact H
      clear H
      have H:=H1
      clear H1
      exact absurd H (by simp)

def laws_FnJoinUp.Pure:Prop:=∀ (l0:List Int),l0.length ≤ maxLen → l0.length * 1 ≤ 140737488351232 → (∀ x ∈ l0,(Lit.int .u8 x).wf = true) → ∃ k,laws_FnJoinUp.f k l0 = some true
end Go.Proofs.YtbnnamjaljohiaaDoor.P
