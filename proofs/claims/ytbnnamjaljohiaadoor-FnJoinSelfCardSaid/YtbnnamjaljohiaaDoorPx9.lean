-- Written by a program of this session (patch_print.py over the kit's print; given texts in wip/given).
-- Cut down by a program of this session (wip/tools/prune.py) to what its claim can name.
import Derived.Test.YtbnnamjaljohiaaDoorSq
import Derived.Test.YtbnnamjaljohiaaDoorPx0
import Derived.Test.YtbnnamjaljohiaaDoorPx2
import Derived.Test.YtbnnamjaljohiaaDoorPx4
import Derived.Test.YtbnnamjaljohiaaDoorPx5
import Derived.Test.YtbnnamjaljohiaaDoorPx7
namespace Go.Proofs.YtbnnamjaljohiaaDoor.P
open Go.RowKit Go.Proofs.YtbnnamjaljohiaaDoorW.PrintWords Go.Proofs.YtbnnamjaljohiaaDoorW.PrintLast Go.Proofs.YtbnnamjaljohiaaDoorW.PrintMore
attribute [local go_sem] max2_int min2_int max_two min_two max_three min_three max_four min_four   -- for this text's walks alone
set_option linter.unusedVariables false
set_option linter.unusedSimpArgs false
set_option maxHeartbeats 8000000
set_option maxRecDepth 100000

def impl_AddrPath.f (k:Nat) (a0_0:ByteArray) (l0_1:List ByteArray) (a0_2:Bool) (a0_3:ByteArray):Option (ByteArray):=(impl_AddrOk.f k a0_0 l0_1 a0_2 a0_3).bind fun t604=>(if t604 = true then ((impl_writePath.f a0_0 l0_1 a0_2 a0_3).bind fun t605=>(some t605)) else (some (⟨#[]⟩:ByteArray)))
theorem impl_AddrPath.mono:∀ a0 a1 a2 a3 k,LeO (impl_AddrPath.f k a0 a1 a2 a3) (impl_AddrPath.f (k + 1) a0 a1 a2 a3):=by
 intro a0 a1 a2 a3 k
 unfold impl_AddrPath.f
 repeat' first
   | (with_reducible apply impl_AddrOk.mono)
   | (with_reducible exact LeO.refl _)
   | (with_reducible exact LeO.none _)
   | (with_reducible refine LeO.ite ?_ ?_)
   | (with_reducible refine LeO.bind ?_ (fun _=>?_))




theorem impl_AddrPath.calls (k:Nat) (a0_0:ByteArray) (A0_1:Option Addr) (c0_1:Nat) (l0_1:List ByteArray) (a0_2:Bool) (a0_3:ByteArray) (r:ByteArray) (w:World) (hr0_1:Kd.C Kd.string w A0_1 l0_1.length l0_1) (hc0_1:l0_1.length ≤ c0_1) (h:impl_AddrPath.f k a0_0 l0_1 a0_2 a0_3 = some r) :
  Calls Tryd.prog 16 #[.agg #[.string a0_0, .slice A0_1 l0_1.length c0_1, .bool a0_2, .string a0_3]] w fun e w'=>e = .returned (.string r) ∧ Below w.heap.size w w':=by
 have hu25:=Tryd.underlying25
 have HR0_1:=Am hr0_1
 have HC0_1:=Am hc0_1
 clear hr0_1 hc0_1
 have HB:=Am (Below.refl w.heap.size w)
 have H:((impl_AddrOk.f k a0_0 l0_1 a0_2 a0_3).bind fun t604=>(if t604 = true then ((impl_writePath.f a0_0 l0_1 a0_2 a0_3).bind fun t605=>(some t605)) else (some (⟨#[]⟩:ByteArray)))) = some r:=h
 clear h
 replace H:=bI H
 obtain ⟨t604,A20,H⟩:=H
 replace H:(if t604 = true then ((impl_writePath.f a0_0 l0_1 a0_2 a0_3).bind fun t605=>(some t605)) else (some (⟨#[]⟩:ByteArray))) = some r:=H
 have A2:=Am A20
 clear A20
 by_cases c3:t604 = true
 ·subst c3
  have H1:((impl_writePath.f a0_0 l0_1 a0_2 a0_3).bind fun t605=>(some t605)) = some r:=by rw [if_pos rfl] at H;exact H
  clear H
  have H:=H1
  clear H1
  replace H:=bI H
  obtain ⟨t605,A40,H⟩:=H
  replace H:(some t605) = some r:=H
  have A4:=Am A40
  clear A40
  obtain rfl:=Option.some.inj H
  go_enter Tryd.func16,Tryd.ntmps16
  go_wp2_with (first|((with_reducible refine gate_dst (N:=1) rfl ?_);refine box_event ?hg (N:=1) ?hd (cs:=#[.string a0_0, .slice A0_1 l0_1.length c0_1, .bool a0_2, .string a0_3]) (t:=25) ?hr ?_;(case hd=>rfl);(case hg=>rfl);(case hr=>(go_simp <;> rfl));intro gb603 hg w5 hbox hb;have n0_:=Am (bT (by repeat (first|(with_reducible first|exact HB.out|apply bA|apply bN|apply bD)|exact HB.out)) hb);have n1_:=Am (hbox);have n2_:=Am ((by rw [hg];exact (bU (by repeat (first|(with_reducible first|exact HB.out|apply bA|apply bN|apply bD)|exact HB.out))):w.heap.size ≤ gb603));have n3_:=n2_;clear HB;have HB:=n0_;have BK603:=n1_;have GW603:=n2_;have GE603:=n3_;clear n0_ n1_ n2_ n3_ hb hbox hg;obtain ⟨hcz6_0,hcz6_1,hcz6_2,hcz6_3,hfz6_0,hfz6_1,hfz6_2,hfz6_3⟩:=bX BK603.out)|((with_reducible refine gate_callee (f:=28) rfl ?_);refine goesL_ (some 4) rfl rfl Tryd.func28 (by kernel_rfl) rfl #[.agg #[.string a0_0, .slice A0_1 l0_1.length c0_1, .bool a0_2, .string a0_3]] rfl (aE1 rfl) ?_;(with_reducible refine (impl_AddrOk.calls k a0_0 _ _ l0_1 a0_2 a0_3 true _ ?side1 ?side2 A2.out).mono ?_);(case side1=>repeat (first|exact (Kd.C_below HR0_1.out HB.out)|(with_reducible refine bC ?_)));(case side2=>exact HC0_1.out);rintro e w7 ⟨rfl,hb⟩;refine ⟨_,rfl,?_⟩;have n0_:=Am (blk_below (bB BK603.out) hb);have n1_:=Am (bT (by repeat (first|(with_reducible first|exact HB.out|apply bA|apply bN|apply bD|refine bS ?_ GE603.out)|exact HB.out)) hb);clear BK603 HB;have BK603:=n0_;have HB:=n1_;clear n0_ n1_;(try clear hb);obtain ⟨hcz8_0,hcz8_1,hcz8_2,hcz8_3,hfz8_0,hfz8_1,hfz8_2,hfz8_3⟩:=bX BK603.out)|((with_reducible refine gate_callee (f:=45) rfl ?_);refine goesL_ (some 7) rfl rfl Tryd.func45 (by kernel_rfl) rfl #[.agg #[.string a0_0, .slice A0_1 l0_1.length c0_1, .bool a0_2, .string a0_3]] rfl (aE1 rfl) ?_;(with_reducible refine (impl_writePath.calls a0_0 _ _ l0_1 a0_2 a0_3 t605 _ ?side1 ?side2 A4.out).mono ?_);(case side1=>repeat (first|exact (Kd.C_below HR0_1.out HB.out)|(with_reducible refine bC ?_)));(case side2=>exact HC0_1.out);rintro e w9 ⟨rfl,hb⟩;refine ⟨_,rfl,?_⟩;have n0_:=Am (blk_below (bB BK603.out) hb);have n1_:=Am (bT (by repeat (first|(with_reducible first|exact HB.out|apply bA|apply bN|apply bD|refine bS ?_ GE603.out)|exact HB.out)) hb);clear BK603 HB;have BK603:=n0_;have HB:=n1_;clear n0_ n1_;(try clear hb)))
  go_ret
  exact ⟨by first|rfl|(simp <;> rfl)|(simp [*] <;> rfl),by repeat (first|(with_reducible first|exact HB.out|apply bA|apply bN|apply bD|refine bS ?_ GE603.out)|exact HB.out)⟩
 ·replace c3:=Bool.eq_false_iff.mpr c3
  subst c3
  have H1:(some (⟨#[]⟩:ByteArray)) = some r:=by rw [if_neg (show ¬ (false = true) by decide)] at H;exact H
  clear H
  have H:=H1
  clear H1
  obtain rfl:=Option.some.inj H
  go_enter Tryd.func16,Tryd.ntmps16
  go_wp2_with (first|((with_reducible refine gate_dst (N:=1) rfl ?_);refine box_event ?hg (N:=1) ?hd (cs:=#[.string a0_0, .slice A0_1 l0_1.length c0_1, .bool a0_2, .string a0_3]) (t:=25) ?hr ?_;(case hd=>rfl);(case hg=>rfl);(case hr=>(go_simp <;> rfl));intro gb603 hg w10 hbox hb;have n0_:=Am (bT (by repeat (first|(with_reducible first|exact HB.out|apply bA|apply bN|apply bD)|exact HB.out)) hb);have n1_:=Am (hbox);have n2_:=Am ((by rw [hg];exact (bU (by repeat (first|(with_reducible first|exact HB.out|apply bA|apply bN|apply bD)|exact HB.out))):w.heap.size ≤ gb603));have n3_:=n2_;clear HB;have HB:=n0_;have BK603:=n1_;have GW603:=n2_;have GE603:=n3_;clear n0_ n1_ n2_ n3_ hb hbox hg;obtain ⟨hcz11_0,hcz11_1,hcz11_2,hcz11_3,hfz11_0,hfz11_1,hfz11_2,hfz11_3⟩:=bX BK603.out)|((with_reducible refine gate_callee (f:=28) rfl ?_);refine goesL_ (some 4) rfl rfl Tryd.func28 (by kernel_rfl) rfl #[.agg #[.string a0_0, .slice A0_1 l0_1.length c0_1, .bool a0_2, .string a0_3]] rfl (aE1 rfl) ?_;(with_reducible refine (impl_AddrOk.calls k a0_0 _ _ l0_1 a0_2 a0_3 false _ ?side1 ?side2 A2.out).mono ?_);(case side1=>repeat (first|exact (Kd.C_below HR0_1.out HB.out)|(with_reducible refine bC ?_)));(case side2=>exact HC0_1.out);rintro e w12 ⟨rfl,hb⟩;refine ⟨_,rfl,?_⟩;have n0_:=Am (blk_below (bB BK603.out) hb);have n1_:=Am (bT (by repeat (first|(with_reducible first|exact HB.out|apply bA|apply bN|apply bD|refine bS ?_ GE603.out)|exact HB.out)) hb);clear BK603 HB;have BK603:=n0_;have HB:=n1_;clear n0_ n1_;(try clear hb)))
  go_ret
  exact ⟨by first|rfl|(simp <;> rfl)|(simp [*] <;> rfl),by repeat (first|(with_reducible first|exact HB.out|apply bA|apply bN|apply bD|refine bS ?_ GE603.out)|exact HB.out)⟩

def laws_FnJoinSelf.j0:Nat → Bool → Bool → Bool → ByteArray → List ByteArray → Bool → ByteArray → ByteArray → List ByteArray → Bool → ByteArray → ByteArray → List ByteArray → Bool → ByteArray → Option (Bool)
 | 0,_,_,_,_,_,_,_,_,_,_,_,_,_,_,_=>none
 | k + 1,x6,x8,x48,x614000,x614001,x614002,x614003,x622000,x622001,x622002,x622003,x630000,x630001,x630002,x630003=>if x48 = true then (if (x8 == x6) = true then ((laws_lpAddr.f k x630000 x630001 x630002 x630003 x622000 x622001 x622002 x622003).bind fun t632=>(some t632)) else (none)) else ((impl_AddrJoin.f k x614000 x614001 x614002 x614003 (⟨#[]⟩:ByteArray)).bind fun bt633=>((impl_AddrJoin.f k x614000 x614001 x614002 x614003 (⟨#[35,116,104,101,114,101]⟩:ByteArray)).bind fun bt641=>((impl_AddrPath.f k x614000 x614001 x614002 x614003).bind fun t649=>((impl_AddrJoin.f k x614000 x614001 x614002 x614003 t649).bind fun bt650=>(if bt633.2.2.2.2 = true then ((laws_lpAddr.f k bt633.1 bt633.2.1 bt633.2.2.1 bt633.2.2.2.1 x614000 x614001 x614002 x614003).bind fun t658=>(if t658 = true then (if bt641.2.2.2.2 = true then ((laws_lpAddr.f k bt641.1 bt641.2.1 bt641.2.2.1 bt641.2.2.2.1 x614000 x614001 x614002 x614003).bind fun t659=>(if t659 = true then (if bt650.2.2.2.2 = true then ((laws_lpAddr.f k bt650.1 bt650.2.1 bt650.2.2.1 bt650.2.2.2.1 x614000 x614001 x614002 x614003).bind fun t660=>(some t660)) else (none)) else (none))) else (none)) else (none))) else (none))))))
def laws_FnJoinSelf.f (k:Nat) (l0:List Int):Option (Bool):=if (l0.length:Int) > 1048576 then (some true) else ((spec_DrawAddrJoin.f k l0).bind fun bt606=>((spec_AddrJoin.f k bt606.1 bt606.2.1 bt606.2.2.1 bt606.2.2.2.1 bt606.2.2.2.2).bind fun bt614=>((impl_AddrJoin.f k bt606.1 bt606.2.1 bt606.2.2.1 bt606.2.2.2.1 bt606.2.2.2.2).bind fun bt622=>(if (bt622.2.2.2.2 != bt614.2.2.2.2) = true then (none) else ((laws_lpAddr.f k bt622.1 bt622.2.1 bt622.2.2.1 bt622.2.2.2.1 bt614.1 bt614.2.1 bt614.2.2.1 bt614.2.2.2.1).bind fun t630=>(if t630 = true then ((spec_AddrOk.f k bt606.1 bt606.2.1 bt606.2.2.1 bt606.2.2.2.1).bind fun t631=>(laws_FnJoinSelf.j0 k bt614.2.2.2.2 bt622.2.2.2.2 (!t631) bt606.1 bt606.2.1 bt606.2.2.1 bt606.2.2.2.1 bt614.1 bt614.2.1 bt614.2.2.1 bt614.2.2.2.1 bt622.1 bt622.2.1 bt622.2.2.1 bt622.2.2.2.1)) else (none)))))))
theorem laws_FnJoinSelf.mono_l:∀ k,(∀ y0 y1 y2 y3 y4 y5 y6 y7 y8 y9 y10 y11 y12 y13 y14,LeO (laws_FnJoinSelf.j0 k y0 y1 y2 y3 y4 y5 y6 y7 y8 y9 y10 y11 y12 y13 y14) (laws_FnJoinSelf.j0 (k + 1) y0 y1 y2 y3 y4 y5 y6 y7 y8 y9 y10 y11 y12 y13 y14))
 | 0=>fun _ _ _ _ _ _ _ _ _ _ _ _ _ _ _ r h=>by simp [laws_FnJoinSelf.j0] at h
 | k + 1=>by
  have ih0:=laws_FnJoinSelf.mono_l k
  ·intro y0 y1 y2 y3 y4 y5 y6 y7 y8 y9 y10 y11 y12 y13 y14
   unfold laws_FnJoinSelf.j0
   repeat' first
   | (with_reducible apply ih0)
   | (with_reducible apply impl_AddrJoin.mono)
   | (with_reducible apply impl_AddrPath.mono)
   | (with_reducible apply laws_lpAddr.mono)
   | (with_reducible apply spec_AddrJoin.mono)
   | (with_reducible apply spec_AddrOk.mono)
   | (with_reducible apply spec_DrawAddrJoin.mono)
   | (with_reducible exact LeO.refl _)
   | (with_reducible exact LeO.none _)
   | (with_reducible refine LeO.ite ?_ ?_)
   | (with_reducible refine LeO.bind ?_ (fun _=>?_))










theorem laws_FnJoinSelf.mono:∀ a0 k,LeO (laws_FnJoinSelf.f k a0) (laws_FnJoinSelf.f (k + 1) a0):=by
 intro a0 k
 have ih0:=laws_FnJoinSelf.mono_l k
 unfold laws_FnJoinSelf.f
 repeat' first
   | (with_reducible apply ih0)
   | (with_reducible apply impl_AddrJoin.mono)
   | (with_reducible apply impl_AddrPath.mono)
   | (with_reducible apply laws_lpAddr.mono)
   | (with_reducible apply spec_AddrJoin.mono)
   | (with_reducible apply spec_AddrOk.mono)
   | (with_reducible apply spec_DrawAddrJoin.mono)
   | (with_reducible exact LeO.refl _)
   | (with_reducible exact LeO.none _)
   | (with_reducible refine LeO.ite ?_ ?_)
   | (with_reducible refine LeO.bind ?_ (fun _=>?_))










def laws_FnJoinSelf.T10:Bool × List (List Nat × List Nat):=(true,[([],[]),([],[]),([1],[1]),([0,2,2],[0,2]),([3],[3]),([4],[4]),([4],[4]),([],[]),([7,5,3,0,1,2,3,4,5,7],[5,7]),([6,8,0,1,2,3,4,5,6,7,8],[6])])
def laws_FnJoinSelf.B10:List Nat:=[0,0,2,7,15,31,31,0,191,511]
theorem laws_FnJoinSelf.tab10:rtab .any (opsOf Tryd.f3 10) = laws_FnJoinSelf.T10:=by kernel_rfl
theorem laws_FnJoinSelf.bits10:waitsOk laws_FnJoinSelf.T10.2 laws_FnJoinSelf.B10 = true:=by kernel_rfl
theorem laws_FnJoinSelf.calls (k:Nat) (A0:Option Addr) (c0:Nat) (l0:List Int) (r:Bool) (w:World) (hr0:Kd.C (Kd.int .u8) w A0 l0.length l0) (hc0:l0.length ≤ c0) (h:laws_FnJoinSelf.f k l0 = some r) :
  Calls Tryd.prog 3 #[.slice A0 l0.length c0] w fun e w'=>e = .returned (.bool r) ∧ Below w.heap.size w w':=by
 have hu25:=Tryd.underlying25
 have HR0:=Am hr0
 have HC0:=Am hc0
 clear hr0 hc0
 have HB:=Am (Below.refl w.heap.size w)
 have H:(if (l0.length:Int) > 1048576 then (some true) else ((spec_DrawAddrJoin.f k l0).bind fun bt606=>((spec_AddrJoin.f k bt606.1 bt606.2.1 bt606.2.2.1 bt606.2.2.2.1 bt606.2.2.2.2).bind fun bt614=>((impl_AddrJoin.f k bt606.1 bt606.2.1 bt606.2.2.1 bt606.2.2.2.1 bt606.2.2.2.2).bind fun bt622=>(if (bt622.2.2.2.2 != bt614.2.2.2.2) = true then (none) else ((laws_lpAddr.f k bt622.1 bt622.2.1 bt622.2.2.1 bt622.2.2.2.1 bt614.1 bt614.2.1 bt614.2.2.1 bt614.2.2.2.1).bind fun t630=>(if t630 = true then ((spec_AddrOk.f k bt606.1 bt606.2.1 bt606.2.2.1 bt606.2.2.2.1).bind fun t631=>(laws_FnJoinSelf.j0 k bt614.2.2.2.2 bt622.2.2.2.2 (!t631) bt606.1 bt606.2.1 bt606.2.2.1 bt606.2.2.2.1 bt614.1 bt614.2.1 bt614.2.2.1 bt614.2.2.2.1 bt622.1 bt622.2.1 bt622.2.2.1 bt622.2.2.2.1)) else (none)))))))) = some r:=h
 clear h
 by_cases c2:(l0.length:Int) > 1048576
 ·rw [if_pos c2] at H
  have c2b0:decide (1048576 < (l0.length:Int)) = true:=decide_eq_true c2
  have c2b1:decide (1048576 < l0.length) = true:=decide_eq_true (by omega)
  clear c2
  obtain rfl:=Option.some.inj H
  go_enter Tryd.func3,Tryd.ntmps3
  go_wp2
  go_ret
  exact ⟨by first|rfl|(simp <;> rfl)|(simp [*] <;> rfl),by repeat (first|(with_reducible first|exact HB.out|apply bA|apply bN|apply bD)|exact HB.out)⟩
 ·rw [if_neg c2] at H
  have c2b0:decide (1048576 < (l0.length:Int)) = false:=decide_eq_false c2
  have c2b1:decide (1048576 < l0.length) = false:=decide_eq_false (by omega)
  clear c2
  replace H:=bI H
  obtain ⟨⟨t606,t607,t610,t611,t612⟩,A30,H⟩:=H
  replace H:((spec_AddrJoin.f k t606 t607 t610 t611 t612).bind fun bt614=>((impl_AddrJoin.f k t606 t607 t610 t611 t612).bind fun bt622=>(if (bt622.2.2.2.2 != bt614.2.2.2.2) = true then (none) else ((laws_lpAddr.f k bt622.1 bt622.2.1 bt622.2.2.1 bt622.2.2.2.1 bt614.1 bt614.2.1 bt614.2.2.1 bt614.2.2.2.1).bind fun t630=>(if t630 = true then ((spec_AddrOk.f k t606 t607 t610 t611).bind fun t631=>(laws_FnJoinSelf.j0 k bt614.2.2.2.2 bt622.2.2.2.2 (!t631) t606 t607 t610 t611 bt614.1 bt614.2.1 bt614.2.2.1 bt614.2.2.2.1 bt622.1 bt622.2.1 bt622.2.2.1 bt622.2.2.2.1)) else (none)))))) = some r:=H
  have A3:=Am A30
  clear A30
  replace H:=bI H
  obtain ⟨⟨t614,t615,t618,t619,t620⟩,A40,H⟩:=H
  replace H:((impl_AddrJoin.f k t606 t607 t610 t611 t612).bind fun bt622=>(if (bt622.2.2.2.2 != t620) = true then (none) else ((laws_lpAddr.f k bt622.1 bt622.2.1 bt622.2.2.1 bt622.2.2.2.1 t614 t615 t618 t619).bind fun t630=>(if t630 = true then ((spec_AddrOk.f k t606 t607 t610 t611).bind fun t631=>(laws_FnJoinSelf.j0 k t620 bt622.2.2.2.2 (!t631) t606 t607 t610 t611 t614 t615 t618 t619 bt622.1 bt622.2.1 bt622.2.2.1 bt622.2.2.2.1)) else (none))))) = some r:=H
  have A4:=Am A40
  clear A40
  replace H:=bI H
  obtain ⟨⟨t622,t623,t626,t627,t628⟩,A50,H⟩:=H
  replace H:(if (t628 != t620) = true then (none) else ((laws_lpAddr.f k t622 t623 t626 t627 t614 t615 t618 t619).bind fun t630=>(if t630 = true then ((spec_AddrOk.f k t606 t607 t610 t611).bind fun t631=>(laws_FnJoinSelf.j0 k t620 t628 (!t631) t606 t607 t610 t611 t614 t615 t618 t619 t622 t623 t626 t627)) else (none)))) = some r:=H
  have A5:=Am A50
  clear A50
  have HC6:=Am H
  clear H
  go_enter Tryd.func3,Tryd.ntmps3
  go_upto_region 6 with (first|((with_reducible refine gate_callee (f:=11) rfl ?_);refine goesL_ (some 20) rfl rfl Tryd.func11 (by kernel_rfl) rfl #[.slice A0 l0.length c0] rfl (aE1 rfl) ?_;(with_reducible refine (spec_DrawAddrJoin.calls k _ _ l0 t606 t607 t610 t611 t612 _ ?side1 ?side2 A3.out).mono ?_);(case side1=>repeat (first|exact HR0.out|(with_reducible refine bC ?_)));(case side2=>exact HC0.out);rintro e w7 ⟨v608,rfl,ho0,hb⟩;refine ⟨_,rfl,?_⟩;have n0_:=Am (Kd.R_lower ho0 (bU (by repeat (first|(with_reducible first|exact HB.out|apply bA|apply bN|apply bD)|exact HB.out))));have n1_:=Am (bT (by repeat (first|(with_reducible first|exact HB.out|apply bA|apply bN|apply bD)|exact HB.out)) hb);clear HB;have HO609:=n0_;have HB:=n1_;clear n0_ n1_;(try clear hb);(try clear ho0))|((with_reducible refine gate_dst (N:=3) rfl ?_);refine box_event ?hg (N:=3) ?hd (cs:=#[.string (⟨#[]⟩:ByteArray), .slice none 0 0, .bool false, .string (⟨#[]⟩:ByteArray)]) (t:=25) ?hr ?_;(case hd=>rfl);(case hg=>rfl);(case hr=>(go_simp <;> rfl));intro gb613 hg w8 hbox hb;have n0_:=bH HO609 hb;have n1_:=Am (bT (by repeat (first|(with_reducible first|exact HB.out|apply bA|apply bN|apply bD)|exact HB.out)) hb);have n2_:=Am (hbox);have n3_:=Am ((by rw [hg];exact (bU (by repeat (first|(with_reducible first|exact HB.out|apply bA|apply bN|apply bD)|exact HB.out))):w.heap.size ≤ gb613));have n4_:=n3_;clear HO609 HB;have HO609:=n0_;have HB:=n1_;have BK613:=n2_;have GW613:=n3_;have GE613:=n4_;clear n0_ n1_ n2_ n3_ n4_ hb hbox hg;obtain ⟨hcz9_0,hcz9_1,hcz9_2,hcz9_3,hfz9_0,hfz9_1,hfz9_2,hfz9_3⟩:=bX BK613.out;obtain ⟨Ao10,co10,eo10⟩:=Kd.R_slice HO609.out;subst eo10)|((with_reducible refine gate_callee (f:=12) rfl ?_);refine goesL_ (some 26) rfl rfl Tryd.func12 (by kernel_rfl) rfl #[.agg #[.string t606, .slice Ao10 t607.length co10, .bool t610, .string t611], .string t612] rfl (aE2 rfl rfl) ?_;(with_reducible refine (spec_AddrJoin.calls k t606 _ _ t607 t610 t611 t612 t614 t615 t618 t619 t620 _ ?side1 ?side2 A4.out).mono ?_);(case side1=>refine (Kd.R_reads' (e:=9) (base:=w.heap.size) (ok:=fun k_=>True) (n:=t607.length) (c:=co10) ?_).2.2;exact (by (with_reducible repeat (first|apply rA|apply rN|apply rD));exact (bQ HO609.out BK613.out (by decide) _ _ _ _)));(case side2=>exact (Kd.R_reads' HO609.out).2.1);rintro e w11 ⟨v616,rfl,ho0,hb⟩;refine ⟨_,rfl,?_⟩;have n0_:=Am (Kd.R_elder' (by (with_reducible repeat (first|apply rA|apply rN|apply rD));exact (bQ HO609.out BK613.out (by decide) _ _ _ _)) (Kd.R_base ho0) hb);have n1_:=Am (Kd.R_lower (Kd.R_new' ho0 (Kd.R_lt (by (with_reducible repeat (first|apply rA|apply rN|apply rD));exact (bQ HO609.out BK613.out (by decide) _ _ _ _)))) (bU (by repeat (first|(with_reducible first|exact HB.out|apply bA|apply bN|apply bD|refine bS ?_ GE613.out)|exact HB.out))));have n2_:=Am (blk_below (g:=gb613) (o:=.cells #[.string t606, .slice Ao10 t607.length co10, .bool t610, .string t611] 25 (0,0)) (by refine bB ?_;apply bP;refine bB ?_;exact BK613.out) hb);have n3_:=Am (bT (by repeat (first|(with_reducible first|exact HB.out|apply bA|apply bN|apply bD|refine bS ?_ GE613.out)|exact HB.out)) hb);clear HO609 BK613 HB;have HO609:=n0_;have HO617:=n1_;have BK613:=n2_;have HB:=n3_;clear n0_ n1_ n2_ n3_;(try clear hb);(try clear ho0))|((with_reducible refine gate_dst (N:=5) rfl ?_);refine box_event ?hg (N:=5) ?hd (cs:=#[.string (⟨#[]⟩:ByteArray), .slice none 0 0, .bool false, .string (⟨#[]⟩:ByteArray)]) (t:=25) ?hr ?_;(case hd=>rfl);(case hg=>rfl);(case hr=>(go_simp <;> rfl));intro gb621 hg w12 hbox hb;have n0_:=bH HO609 hb;have n1_:=bH HO617 hb;have n2_:=Am (blk_below (bB BK613.out) hb);have n3_:=Am (bT (by repeat (first|(with_reducible first|exact HB.out|apply bA|apply bN|apply bD|refine bS ?_ GE613.out)|exact HB.out)) hb);have n4_:=Am (hbox);have n5_:=Am ((by rw [hg];exact (bU (by repeat (first|(with_reducible first|exact HB.out|apply bA|apply bN|apply bD|refine bS ?_ GE613.out)|exact HB.out))):w.heap.size ≤ gb621));have n6_:=n5_;have n7_:=Am ((by rw [hg];exact Nat.ne_of_lt (blk_lt (bB BK613.out)):gb613 ≠ gb621));have n8_:=Am ((by rw [hg];exact Nat.ne_of_gt (blk_lt (bB BK613.out)):gb621 ≠ gb613));clear HO609 HO617 BK613 HB;have HO609:=n0_;have HO617:=n1_;have BK613:=n2_;have HB:=n3_;have BK621:=n4_;have GW621:=n5_;have GE621:=n6_;have NB613_621:=n7_;have NB621_613:=n8_;clear n0_ n1_ n2_ n3_ n4_ n5_ n6_ n7_ n8_ hb hbox hg;have hnb13:=NB621_613.out;have hnc13:=NB613_621.out;obtain ⟨hcz14_0,hcz14_1,hcz14_2,hcz14_3,hfz14_0,hfz14_1,hfz14_2,hfz14_3⟩:=bX BK621.out;obtain ⟨Ao15,co15,eo15⟩:=Kd.R_slice HO617.out;subst eo15;obtain ⟨hcz16_0,hcz16_1,hcz16_2,hcz16_3,hfz16_0,hfz16_1,hfz16_2,hfz16_3⟩:=bX BK613.out)|((with_reducible refine gate_callee (f:=13) rfl ?_);refine goesL_ (some 32) rfl rfl Tryd.func13 (by kernel_rfl) rfl #[.agg #[.string t606, .slice Ao10 t607.length co10, .bool t610, .string t611], .string t612] rfl (aE2 rfl rfl) ?_;(with_reducible refine (impl_AddrJoin.calls k t606 _ _ t607 t610 t611 t612 t622 t623 t626 t627 t628 _ ?side1 ?side2 A5.out).mono ?_);(case side1=>refine (Kd.R_reads' (e:=9) (base:=w.heap.size) (ok:=fun k_=>(True ∧ some k_ ≠ (.slice Ao15 t615.length co15:Value).ownBlock)) (n:=t607.length) (c:=co10) ?_).2.2;exact (by (with_reducible repeat (first|apply rA|apply rN|apply rD));exact (bQ HO609.out BK621.out (by decide) _ _ _ _)));(case side2=>exact (Kd.R_reads' HO609.out).2.1);rintro e w17 ⟨v624,rfl,ho0,hb⟩;refine ⟨_,rfl,?_⟩;have n0_:=Am (Kd.R_elder' (by (with_reducible repeat (first|apply rA|apply rN|apply rD));exact (bQ HO609.out BK621.out (by decide) _ _ _ _)) (Kd.R_base ho0) hb);have n1_:=Am (Kd.R_elder' (by (with_reducible repeat (first|apply rA|apply rN|apply rD));exact (bQ HO617.out BK621.out (by decide) _ _ _ _)) (Kd.R_base ho0) hb);have n2_:=Am (Kd.R_lower (Kd.R_new' (Kd.R_new' ho0 (Kd.R_lt (by (with_reducible repeat (first|apply rA|apply rN|apply rD));exact (bQ HO609.out BK621.out (by decide) _ _ _ _)))) (Kd.R_lt (by (with_reducible repeat (first|apply rA|apply rN|apply rD));exact (bQ HO617.out BK621.out (by decide) _ _ _ _)))) (bU (by repeat (first|(with_reducible first|exact HB.out|apply bA|apply bN|apply bD|refine bS ?_ GE613.out|refine bS ?_ GE621.out)|exact HB.out))));have n3_:=Am (blk_below (g:=gb613) (o:=.cells #[.string t606, .slice Ao10 t607.length co10, .bool t610, .string t611] 25 (0,0)) (by refine bB ?_;refine bF ?_ NB613_621.out;refine bB ?_;exact BK613.out) hb);have n4_:=Am (blk_below (g:=gb621) (o:=.cells #[.string t614, .slice Ao15 t615.length co15, .bool t618, .string t619] 25 (0,0)) (by refine bB ?_;apply bP;refine bB ?_;exact BK621.out) hb);have n5_:=Am (bT (by repeat (first|(with_reducible first|exact HB.out|apply bA|apply bN|apply bD|refine bS ?_ GE613.out|refine bS ?_ GE621.out)|exact HB.out)) hb);clear HO609 HO617 BK613 BK621 HB;have HO609:=n0_;have HO617:=n1_;have HO625:=n2_;have BK613:=n3_;have BK621:=n4_;have HB:=n5_;clear n0_ n1_ n2_ n3_ n4_ n5_;(try clear hb);(try clear ho0))|((with_reducible refine gate_dst (N:=7) rfl ?_);refine box_event ?hg (N:=7) ?hd (cs:=#[.string (⟨#[]⟩:ByteArray), .slice none 0 0, .bool false, .string (⟨#[]⟩:ByteArray)]) (t:=25) ?hr ?_;(case hd=>rfl);(case hg=>rfl);(case hr=>(go_simp <;> rfl));intro gb629 hg w18 hbox hb;have n0_:=bH HO609 hb;have n1_:=bH HO617 hb;have n2_:=bH HO625 hb;have n3_:=Am (blk_below (bB BK613.out) hb);have n4_:=Am (blk_below (bB BK621.out) hb);have n5_:=Am (bT (by repeat (first|(with_reducible first|exact HB.out|apply bA|apply bN|apply bD|refine bS ?_ GE613.out|refine bS ?_ GE621.out)|exact HB.out)) hb);have n6_:=Am (hbox);have n7_:=Am ((by rw [hg];exact (bU (by repeat (first|(with_reducible first|exact HB.out|apply bA|apply bN|apply bD|refine bS ?_ GE613.out|refine bS ?_ GE621.out)|exact HB.out))):w.heap.size ≤ gb629));have n8_:=n7_;have n9_:=Am ((by rw [hg];exact Nat.ne_of_lt (blk_lt (bB BK613.out)):gb613 ≠ gb629));have n10_:=Am ((by rw [hg];exact Nat.ne_of_gt (blk_lt (bB BK613.out)):gb629 ≠ gb613));have n11_:=Am ((by rw [hg];exact Nat.ne_of_lt (blk_lt (bB BK621.out)):gb621 ≠ gb629));have n12_:=Am ((by rw [hg];exact Nat.ne_of_gt (blk_lt (bB BK621.out)):gb629 ≠ gb621));clear HO609 HO617 HO625 BK613 BK621 HB;have HO609:=n0_;have HO617:=n1_;have HO625:=n2_;have BK613:=n3_;have BK621:=n4_;have HB:=n5_;have BK629:=n6_;have GW629:=n7_;have GE629:=n8_;have NB613_629:=n9_;have NB629_613:=n10_;have NB621_629:=n11_;have NB629_621:=n12_;clear n0_ n1_ n2_ n3_ n4_ n5_ n6_ n7_ n8_ n9_ n10_ n11_ n12_ hb hbox hg;have hnb19:=NB629_613.out;have hnc19:=NB613_629.out;have hnb20:=NB629_621.out;have hnc20:=NB621_629.out;obtain ⟨hcz21_0,hcz21_1,hcz21_2,hcz21_3,hfz21_0,hfz21_1,hfz21_2,hfz21_3⟩:=bX BK629.out;obtain ⟨Ao22,co22,eo22⟩:=Kd.R_slice HO625.out;subst eo22))
  (try simp only [Act.put,lT,lZ,lS])
  go_cut [48] (fun v48 wc=>∃ (kq:Nat) (x48_5:Bool),v48 = .bool x48_5 ∧ Aside0 (laws_FnJoinSelf.j0 kq t620 t628 x48_5 t606 t607 t610 t611 t614 t615 t618 t619 t622 t623 t626 t627 = some r) ∧ Aside0 (kq ≤ k) ∧ Aside0 (Kd.R Kd.string 9 wc w.heap.size (fun k_=>some k_ ≠ ((.slice Ao15 t615.length co15):Value).ownBlock ∧ some k_ ≠ ((.slice Ao22 t623.length co22):Value).ownBlock) (.slice Ao10 t607.length co10) t607) ∧ Aside0 (Kd.R Kd.string 9 wc w.heap.size (fun k_=>some k_ ≠ ((.slice Ao10 t607.length co10):Value).ownBlock ∧ some k_ ≠ ((.slice Ao22 t623.length co22):Value).ownBlock) (.slice Ao15 t615.length co15) t615) ∧ Aside0 (Kd.R Kd.string 9 wc w.heap.size (fun k_=>some k_ ≠ ((.slice Ao10 t607.length co10):Value).ownBlock ∧ some k_ ≠ ((.slice Ao15 t615.length co15):Value).ownBlock) (.slice Ao22 t623.length co22) t623) ∧ Aside0 (wc.heap[gb613]? = some (.cells #[.string t606,(.slice Ao10 t607.length co10), .bool t610, .string t611] 25 (0,0))) ∧ Aside0 (wc.heap[gb621]? = some (.cells #[.string t614,(.slice Ao15 t615.length co15), .bool t618, .string t619] 25 (0,0))) ∧ Aside0 (wc.heap[gb629]? = some (.cells #[.string t622,(.slice Ao22 t623.length co22), .bool t626, .string t627] 25 (0,0))) ∧ Aside0 (Below w.heap.size w wc))
  case first =>
   have H:=HC6.out
   clear HC6
   by_cases c23:(t628 != t620) = true
   ·rw [if_pos c23] at H
    exact absurd H (by simp)
   ·rw [if_neg c23] at H
    have c23b0:(t628 != t620) = false:=by simpa using c23
    (try (have c23b1:decide (t628 = t620) = true:=by simpa using c23))
    (try (have c23b2:(t628 == t620) = true:=by simpa using c23))
    clear c23
    (first|rw [c23b0]|(simp only [i64_w,i32_w];rw [c23b0])|skip)
    replace H:=bI H
    obtain ⟨t630,A240,H⟩:=H
    replace H:(if t630 = true then ((spec_AddrOk.f k t606 t607 t610 t611).bind fun t631=>(laws_FnJoinSelf.j0 k t620 t628 (!t631) t606 t607 t610 t611 t614 t615 t618 t619 t622 t623 t626 t627)) else (none)) = some r:=H
    have A24:=Am A240
    clear A240
    by_cases c25:t630 = true
    ·subst c25
     have H1:((spec_AddrOk.f k t606 t607 t610 t611).bind fun t631=>(laws_FnJoinSelf.j0 k t620 t628 (!t631) t606 t607 t610 t611 t614 t615 t618 t619 t622 t623 t626 t627)) = some r:=by rw [if_pos rfl] at H;exact H
     clear H
     have H:=H1
     clear H1
     replace H:=bI H
     obtain ⟨t631,A260,H⟩:=H
     replace H:(laws_FnJoinSelf.j0 k t620 t628 (!t631) t606 t607 t610 t611 t614 t615 t618 t619 t622 t623 t626 t627) = some r:=H
     have A26:=Am A260
     clear A260
     have H':=Am H
     clear H
     have hnb27:=NB629_613.out
     have hnc27:=NB613_629.out
     have hnb28:=NB629_621.out
     have hnc28:=NB621_629.out
     obtain ⟨hcz29_0,hcz29_1,hcz29_2,hcz29_3,hfz29_0,hfz29_1,hfz29_2,hfz29_3⟩:=bX BK629.out







     have hnb30:=NB621_613.out
     have hnc30:=NB613_621.out
     obtain ⟨hcz31_0,hcz31_1,hcz31_2,hcz31_3,hfz31_0,hfz31_1,hfz31_2,hfz31_3⟩:=bX BK621.out







     go_wp2_with (first|(go_at_call 14;(with_reducible refine (laws_lpAddr.calls k t622 _ _ t623 t626 t627 t614 _ _ t615 t618 t619 true _ ?side1 ?side2 ?side3 ?side4 A24.out).mono ?_);(case side1=>refine (Kd.R_reads' (e:=9) (base:=w.heap.size) (ok:=fun k_=>((True ∧ some k_ ≠ (.slice Ao10 t607.length co10:Value).ownBlock) ∧ some k_ ≠ (.slice Ao15 t615.length co15:Value).ownBlock)) (n:=t623.length) (c:=co22) ?_).2.2;exact (by (with_reducible repeat (first|apply rA|apply rN|apply rD));exact (bQ HO625.out BK629.out (by decide) _ _ _ _)));(case side2=>exact (Kd.R_reads' HO625.out).2.1);(case side3=>refine (Kd.R_reads' (e:=9) (base:=w.heap.size) (ok:=fun k_=>((True ∧ some k_ ≠ (.slice Ao10 t607.length co10:Value).ownBlock) ∧ some k_ ≠ (.slice Ao22 t623.length co22:Value).ownBlock)) (n:=t615.length) (c:=co15) ?_).2.2;exact (by (with_reducible repeat (first|apply rA|apply rN|apply rD));exact (bQ HO617.out BK629.out (by decide) _ _ _ _)));(case side4=>exact (Kd.R_reads' HO617.out).2.1);rintro e w32 ⟨rfl,hb⟩;have n0_:=Am (Kd.R_below (by (with_reducible repeat (first|apply rA|apply rN|apply rD));exact (bQ HO609.out BK629.out (by decide) _ _ _ _)) hb);have n1_:=Am (Kd.R_below (by (with_reducible repeat (first|apply rA|apply rN|apply rD));exact (bQ HO617.out BK629.out (by decide) _ _ _ _)) hb);have n2_:=Am (Kd.R_below (by (with_reducible repeat (first|apply rA|apply rN|apply rD));exact (bQ HO625.out BK629.out (by decide) _ _ _ _)) hb);have n3_:=Am (blk_below (g:=gb613) (o:=.cells #[.string t606, .slice Ao10 t607.length co10, .bool t610, .string t611] 25 (0,0)) (by refine bB ?_;refine bF ?_ NB613_629.out;refine bB ?_;exact BK613.out) hb);have n4_:=Am (blk_below (g:=gb621) (o:=.cells #[.string t614, .slice Ao15 t615.length co15, .bool t618, .string t619] 25 (0,0)) (by refine bB ?_;refine bF ?_ NB621_629.out;refine bB ?_;exact BK621.out) hb);have n5_:=Am (blk_below (g:=gb629) (o:=.cells #[.string t622, .slice Ao22 t623.length co22, .bool t626, .string t627] 25 (0,0)) (by refine bB ?_;apply bP;refine bB ?_;exact BK629.out) hb);have n6_:=Am (bT (by repeat (first|(with_reducible first|exact HB.out|apply bA|apply bN|apply bD|refine bS ?_ GE613.out|refine bS ?_ GE621.out|refine bS ?_ GE629.out)|exact HB.out)) hb);clear HO609 HO617 HO625 BK613 BK621 BK629 HB;have HO609:=n0_;have HO617:=n1_;have HO625:=n2_;have BK613:=n3_;have BK621:=n4_;have BK629:=n5_;have HB:=n6_;clear n0_ n1_ n2_ n3_ n4_ n5_ n6_;(try clear hb);obtain ⟨hcz33_0,hcz33_1,hcz33_2,hcz33_3,hfz33_0,hfz33_1,hfz33_2,hfz33_3⟩:=bX BK613.out)|(go_at_call 15;(with_reducible refine (spec_AddrOk.calls k t606 _ _ t607 t610 t611 t631 _ ?side1 ?side2 A26.out).mono ?_);(case side1=>repeat (first|exact (Kd.R_reads' HO609.out).2.2|(with_reducible refine bC ?_)));(case side2=>exact (Kd.R_reads' HO609.out).2.1);rintro e w34 ⟨rfl,hb⟩;have n0_:=bH HO609 hb;have n1_:=bH HO617 hb;have n2_:=bH HO625 hb;have n3_:=Am (blk_below (bB BK613.out) hb);have n4_:=Am (blk_below (bB BK621.out) hb);have n5_:=Am (blk_below (bB BK629.out) hb);have n6_:=Am (bT (by repeat (first|(with_reducible first|exact HB.out|apply bA|apply bN|apply bD|refine bS ?_ GE613.out|refine bS ?_ GE621.out|refine bS ?_ GE629.out)|exact HB.out)) hb);clear HO609 HO617 HO625 BK613 BK621 BK629 HB;have HO609:=n0_;have HO617:=n1_;have HO625:=n2_;have BK613:=n3_;have BK621:=n4_;have BK629:=n5_;have HB:=n6_;clear n0_ n1_ n2_ n3_ n4_ n5_ n6_;(try clear hb)))
     go_meet
     case rel=>exact ⟨_,(!t631),(by first|rfl|(simp;done)|(simp only [i64_w,i32_w] <;> rfl)|(simp [*];done)|(simp [emp_bne,emp_beq];done)),H',⟨by first|omega|exact Nat.le_refl _⟩,⟨by (with_reducible repeat (first|apply rA|apply rN|apply rD));exact Kd.R_mono HO609.out (fun _ hk=>⟨hk.1.2,hk.2⟩)⟩,⟨by (with_reducible repeat (first|apply rA|apply rN|apply rD));exact Kd.R_mono HO617.out (fun _ hk=>⟨hk.1.2,hk.2⟩)⟩,⟨by (with_reducible repeat (first|apply rA|apply rN|apply rD));exact Kd.R_mono HO625.out (fun _ hk=>⟨hk.1.2,hk.2⟩)⟩,⟨by refine bB ?_;exact BK613.out⟩,⟨by refine bB ?_;exact BK621.out⟩,⟨by refine bB ?_;exact BK629.out⟩,⟨by repeat (first|(with_reducible first|exact HB.out|apply bA|apply bN|apply bD|refine bS ?_ GE613.out|refine bS ?_ GE621.out|refine bS ?_ GE629.out)|exact HB.out)⟩⟩
    ·replace c25:=Bool.eq_false_iff.mpr c25
     subst c25
     have H1:(none) = some r:=by rw [if_neg (show ¬ (false = true) by decide)] at H;exact H
     clear H
     have H:=H1
     clear H1
     exact absurd H (by simp)
  case rest =>
   clear HC6
   try clear c1
   try clear c2
   try clear c2b0
   try clear c2b1
   try clear p2
   try clear c3
   try clear c11
   try clear c12
   try clear c13
   try clear c19
   try clear c20
   try clear c23
   try clear c23b0
   try clear c23b1
   try clear c23b2
   try clear c25
   try clear c27
   try clear c28
   try clear c30
   try clear hcz14_0
   try clear hcz14_1
   try clear hcz14_2
   try clear hcz14_3
   try clear hcz16_0
   try clear hcz16_1
   try clear hcz16_2
   try clear hcz16_3
   try clear hcz21_0
   try clear hcz21_1
   try clear hcz21_2
   try clear hcz21_3
   try clear hcz29_0
   try clear hcz29_1
   try clear hcz29_2
   try clear hcz29_3
   try clear hcz31_0
   try clear hcz31_1
   try clear hcz31_2
   try clear hcz31_3
   try clear hcz33_0
   try clear hcz33_1
   try clear hcz33_2
   try clear hcz33_3
   try clear hcz9_0
   try clear hcz9_1
   try clear hcz9_2
   try clear hcz9_3
   try clear hfz14_0
   try clear hfz14_1
   try clear hfz14_2
   try clear hfz14_3
   try clear hfz16_0
   try clear hfz16_1
   try clear hfz16_2
   try clear hfz16_3
   try clear hfz21_0
   try clear hfz21_1
   try clear hfz21_2
   try clear hfz21_3
   try clear hfz29_0
   try clear hfz29_1
   try clear hfz29_2
   try clear hfz29_3
   try clear hfz31_0
   try clear hfz31_1
   try clear hfz31_2
   try clear hfz31_3
   try clear hfz33_0
   try clear hfz33_1
   try clear hfz33_2
   try clear hfz33_3
   try clear hfz9_0
   try clear hfz9_1
   try clear hfz9_2
   try clear hfz9_3
   obtain ⟨kq,x48_5,rfl,HA,HJ5,HO_614001,HO_622001,HO_630001,BK613,BK621,BK629,HB⟩:=hcut
   cases kq with
   | zero=>exact absurd HA.out (by simp [laws_FnJoinSelf.j0])
   | succ kj5 =>
    have H:=HA.out
    clear HA
    simp only [laws_FnJoinSelf.j0] at H
    by_cases c35:x48_5 = true
    ·subst c35
     have H1:(if (t628 == t620) = true then ((laws_lpAddr.f kj5 t622 t623 t626 t627 t614 t615 t618 t619).bind fun t632=>(some t632)) else (none)) = some r:=by rw [if_pos rfl] at H;exact H
     clear H
     have H:=H1
     clear H1
     by_cases c36:(t628 == t620) = true
     ·rw [if_pos c36] at H
      have c36b0:(t628 == t620) = true:=c36
      (try (have c36b1:decide (t628 = t620) = true:=by simpa using c36))
      (try (have c36b2:(t628 == t620) = true:=by simpa using c36))
      clear c36
      replace H:=bI H
      obtain ⟨t632,A370,H⟩:=H
      replace H:(some t632) = some r:=H
      have A37:=Am A370
      clear A370
      obtain rfl:=Option.some.inj H
      have hnb38:=NB629_613.out
      have hnc38:=NB613_629.out
      have hnb39:=NB629_621.out
      have hnc39:=NB621_629.out
      obtain ⟨hcz40_0,hcz40_1,hcz40_2,hcz40_3,hfz40_0,hfz40_1,hfz40_2,hfz40_3⟩:=bX BK629.out







      have hnb41:=NB621_613.out
      have hnc41:=NB613_621.out
      obtain ⟨hcz42_0,hcz42_1,hcz42_2,hcz42_3,hfz42_0,hfz42_1,hfz42_2,hfz42_3⟩:=bX BK621.out







      go_wp2_with (first|(go_at_call 14;(with_reducible refine (laws_lpAddr.calls kj5 t622 _ _ t623 t626 t627 t614 _ _ t615 t618 t619 t632 _ ?side1 ?side2 ?side3 ?side4 A37.out).mono ?_);(case side1=>repeat (first|exact (Kd.R_reads' HO_630001.out).2.2|(with_reducible refine bC ?_)));(case side2=>exact (Kd.R_reads' HO_630001.out).2.1);(case side3=>repeat (first|exact (Kd.R_reads' HO_622001.out).2.2|(with_reducible refine bC ?_)));(case side4=>exact (Kd.R_reads' HO_622001.out).2.1);rintro e w43 ⟨rfl,hb⟩;have n0_:=bH HO_614001 hb;have n1_:=bH HO_622001 hb;have n2_:=bH HO_630001 hb;have n3_:=Am (blk_below (bB BK613.out) hb);have n4_:=Am (blk_below (bB BK621.out) hb);have n5_:=Am (blk_below (bB BK629.out) hb);have n6_:=Am (bT (by repeat (first|(with_reducible first|exact HB.out|apply bA|apply bN|apply bD|refine bS ?_ GE613.out|refine bS ?_ GE621.out|refine bS ?_ GE629.out)|exact HB.out)) hb);clear HO_614001 HO_622001 HO_630001 BK613 BK621 BK629 HB;have HO_614001:=n0_;have HO_622001:=n1_;have HO_630001:=n2_;have BK613:=n3_;have BK621:=n4_;have BK629:=n5_;have HB:=n6_;clear n0_ n1_ n2_ n3_ n4_ n5_ n6_;(try clear hb)))
      go_ret
      exact ⟨by first|rfl|(simp <;> rfl)|(simp [*] <;> rfl),by repeat (first|(with_reducible first|exact HB.out|apply bA|apply bN|apply bD|refine bS ?_ GE613.out|refine bS ?_ GE621.out|refine bS ?_ GE629.out)|exact HB.out)⟩
     ·rw [if_neg c36] at H
      exact absurd H (by simp)
    ·replace c35:=Bool.eq_false_iff.mpr c35
     subst c35
     have H1:((impl_AddrJoin.f kj5 t606 t607 t610 t611 (⟨#[]⟩:ByteArray)).bind fun bt633=>((impl_AddrJoin.f kj5 t606 t607 t610 t611 (⟨#[35,116,104,101,114,101]⟩:ByteArray)).bind fun bt641=>((impl_AddrPath.f kj5 t606 t607 t610 t611).bind fun t649=>((impl_AddrJoin.f kj5 t606 t607 t610 t611 t649).bind fun bt650=>(if bt633.2.2.2.2 = true then ((laws_lpAddr.f kj5 bt633.1 bt633.2.1 bt633.2.2.1 bt633.2.2.2.1 t606 t607 t610 t611).bind fun t658=>(if t658 = true then (if bt641.2.2.2.2 = true then ((laws_lpAddr.f kj5 bt641.1 bt641.2.1 bt641.2.2.1 bt641.2.2.2.1 t606 t607 t610 t611).bind fun t659=>(if t659 = true then (if bt650.2.2.2.2 = true then ((laws_lpAddr.f kj5 bt650.1 bt650.2.1 bt650.2.2.1 bt650.2.2.2.1 t606 t607 t610 t611).bind fun t660=>(some t660)) else (none)) else (none))) else (none)) else (none))) else (none)))))) = some r:=by rw [if_neg (show ¬ (false = true) by decide)] at H;exact H
     clear H
     have H:=H1
     clear H1
     replace H:=bI H
     obtain ⟨⟨t633,t634,t637,t638,t639⟩,A440,H⟩:=H
     replace H:((impl_AddrJoin.f kj5 t606 t607 t610 t611 (⟨#[35,116,104,101,114,101]⟩:ByteArray)).bind fun bt641=>((impl_AddrPath.f kj5 t606 t607 t610 t611).bind fun t649=>((impl_AddrJoin.f kj5 t606 t607 t610 t611 t649).bind fun bt650=>(if t639 = true then ((laws_lpAddr.f kj5 t633 t634 t637 t638 t606 t607 t610 t611).bind fun t658=>(if t658 = true then (if bt641.2.2.2.2 = true then ((laws_lpAddr.f kj5 bt641.1 bt641.2.1 bt641.2.2.1 bt641.2.2.2.1 t606 t607 t610 t611).bind fun t659=>(if t659 = true then (if bt650.2.2.2.2 = true then ((laws_lpAddr.f kj5 bt650.1 bt650.2.1 bt650.2.2.1 bt650.2.2.2.1 t606 t607 t610 t611).bind fun t660=>(some t660)) else (none)) else (none))) else (none)) else (none))) else (none))))) = some r:=H
     have A44:=Am A440
     clear A440
     replace H:=bI H
     obtain ⟨⟨t641,t642,t645,t646,t647⟩,A450,H⟩:=H
     replace H:((impl_AddrPath.f kj5 t606 t607 t610 t611).bind fun t649=>((impl_AddrJoin.f kj5 t606 t607 t610 t611 t649).bind fun bt650=>(if t639 = true then ((laws_lpAddr.f kj5 t633 t634 t637 t638 t606 t607 t610 t611).bind fun t658=>(if t658 = true then (if t647 = true then ((laws_lpAddr.f kj5 t641 t642 t645 t646 t606 t607 t610 t611).bind fun t659=>(if t659 = true then (if bt650.2.2.2.2 = true then ((laws_lpAddr.f kj5 bt650.1 bt650.2.1 bt650.2.2.1 bt650.2.2.2.1 t606 t607 t610 t611).bind fun t660=>(some t660)) else (none)) else (none))) else (none)) else (none))) else (none)))) = some r:=H
     have A45:=Am A450
     clear A450
     replace H:=bI H
     obtain ⟨t649,A460,H⟩:=H
     replace H:((impl_AddrJoin.f kj5 t606 t607 t610 t611 t649).bind fun bt650=>(if t639 = true then ((laws_lpAddr.f kj5 t633 t634 t637 t638 t606 t607 t610 t611).bind fun t658=>(if t658 = true then (if t647 = true then ((laws_lpAddr.f kj5 t641 t642 t645 t646 t606 t607 t610 t611).bind fun t659=>(if t659 = true then (if bt650.2.2.2.2 = true then ((laws_lpAddr.f kj5 bt650.1 bt650.2.1 bt650.2.2.1 bt650.2.2.2.1 t606 t607 t610 t611).bind fun t660=>(some t660)) else (none)) else (none))) else (none)) else (none))) else (none))) = some r:=H
     have A46:=Am A460
     clear A460
     replace H:=bI H
     obtain ⟨⟨t650,t651,t654,t655,t656⟩,A470,H⟩:=H
     replace H:(if t639 = true then ((laws_lpAddr.f kj5 t633 t634 t637 t638 t606 t607 t610 t611).bind fun t658=>(if t658 = true then (if t647 = true then ((laws_lpAddr.f kj5 t641 t642 t645 t646 t606 t607 t610 t611).bind fun t659=>(if t659 = true then (if t656 = true then ((laws_lpAddr.f kj5 t650 t651 t654 t655 t606 t607 t610 t611).bind fun t660=>(some t660)) else (none)) else (none))) else (none)) else (none))) else (none)) = some r:=H
     have A47:=Am A470
     clear A470
     by_cases c48:t639 = true
     ·subst c48
      have H1:((laws_lpAddr.f kj5 t633 t634 t637 t638 t606 t607 t610 t611).bind fun t658=>(if t658 = true then (if t647 = true then ((laws_lpAddr.f kj5 t641 t642 t645 t646 t606 t607 t610 t611).bind fun t659=>(if t659 = true then (if t656 = true then ((laws_lpAddr.f kj5 t650 t651 t654 t655 t606 t607 t610 t611).bind fun t660=>(some t660)) else (none)) else (none))) else (none)) else (none))) = some r:=by rw [if_pos rfl] at H;exact H
      clear H
      have H:=H1
      clear H1
      replace H:=bI H
      obtain ⟨t658,A490,H⟩:=H
      replace H:(if t658 = true then (if t647 = true then ((laws_lpAddr.f kj5 t641 t642 t645 t646 t606 t607 t610 t611).bind fun t659=>(if t659 = true then (if t656 = true then ((laws_lpAddr.f kj5 t650 t651 t654 t655 t606 t607 t610 t611).bind fun t660=>(some t660)) else (none)) else (none))) else (none)) else (none)) = some r:=H
      have A49:=Am A490
      clear A490
      by_cases c50:t658 = true
      ·subst c50
       have H1:(if t647 = true then ((laws_lpAddr.f kj5 t641 t642 t645 t646 t606 t607 t610 t611).bind fun t659=>(if t659 = true then (if t656 = true then ((laws_lpAddr.f kj5 t650 t651 t654 t655 t606 t607 t610 t611).bind fun t660=>(some t660)) else (none)) else (none))) else (none)) = some r:=by rw [if_pos rfl] at H;exact H
       clear H
       have H:=H1
       clear H1
       by_cases c51:t647 = true
       ·subst c51
        have H1:((laws_lpAddr.f kj5 t641 t642 t645 t646 t606 t607 t610 t611).bind fun t659=>(if t659 = true then (if t656 = true then ((laws_lpAddr.f kj5 t650 t651 t654 t655 t606 t607 t610 t611).bind fun t660=>(some t660)) else (none)) else (none))) = some r:=by rw [if_pos rfl] at H;exact H
        clear H
        have H:=H1
        clear H1
        replace H:=bI H
        obtain ⟨t659,A520,H⟩:=H
        replace H:(if t659 = true then (if t656 = true then ((laws_lpAddr.f kj5 t650 t651 t654 t655 t606 t607 t610 t611).bind fun t660=>(some t660)) else (none)) else (none)) = some r:=H
        have A52:=Am A520
        clear A520
        by_cases c53:t659 = true
        ·subst c53
         have H1:(if t656 = true then ((laws_lpAddr.f kj5 t650 t651 t654 t655 t606 t607 t610 t611).bind fun t660=>(some t660)) else (none)) = some r:=by rw [if_pos rfl] at H;exact H
         clear H
         have H:=H1
         clear H1
         by_cases c54:t656 = true
         ·subst c54
          have H1:((laws_lpAddr.f kj5 t650 t651 t654 t655 t606 t607 t610 t611).bind fun t660=>(some t660)) = some r:=by rw [if_pos rfl] at H;exact H
          clear H
          have H:=H1
          clear H1
          replace H:=bI H
          obtain ⟨t660,A550,H⟩:=H
          replace H:(some t660) = some r:=H
          have A55:=Am A550
          clear A550
          obtain rfl:=Option.some.inj H
          have hnb56:=NB613_621.out
          have hnc56:=NB621_613.out
          have hnb57:=NB613_629.out
          have hnc57:=NB629_613.out
          obtain ⟨hcz58_0,hcz58_1,hcz58_2,hcz58_3,hfz58_0,hfz58_1,hfz58_2,hfz58_3⟩:=bX BK613.out







          try go_wp2_with (first|((with_reducible refine gate_callee (f:=13) rfl ?_);refine goesL_ (some 59) rfl rfl Tryd.func13 (by kernel_rfl) rfl #[.agg #[.string t606, .slice Ao10 t607.length co10, .bool t610, .string t611], .string (⟨#[]⟩:ByteArray)] rfl (aE2 rfl rfl) ?_;(with_reducible refine (impl_AddrJoin.calls kj5 t606 _ _ t607 t610 t611 (⟨#[]⟩:ByteArray) t633 t634 t637 t638 true _ ?side1 ?side2 A44.out).mono ?_);(case side1=>repeat (first|exact (Kd.R_reads' HO_614001.out).2.2|(with_reducible refine bC ?_)));(case side2=>exact (Kd.R_reads' HO_614001.out).2.1);rintro e w59 ⟨v635,rfl,ho0,hb⟩;refine ⟨_,rfl,?_⟩;have n0_:=Am (Kd.R_elder' (bR HO_614001.out) (Kd.R_base ho0) hb);have n1_:=Am (Kd.R_elder' (bR HO_622001.out) (Kd.R_base ho0) hb);have n2_:=Am (Kd.R_elder' (bR HO_630001.out) (Kd.R_base ho0) hb);have n3_:=Am (Kd.R_lower (Kd.R_new' (Kd.R_new' (Kd.R_new' ho0 (Kd.R_lt (bR HO_614001.out))) (Kd.R_lt (bR HO_622001.out))) (Kd.R_lt (bR HO_630001.out))) (bU (by repeat (first|(with_reducible first|exact HB.out|apply bA|apply bN|apply bD|refine bS ?_ GE613.out|refine bS ?_ GE621.out|refine bS ?_ GE629.out)|exact HB.out))));have n4_:=Am (blk_below (bB BK613.out) hb);have n5_:=Am (blk_below (bB BK621.out) hb);have n6_:=Am (blk_below (bB BK629.out) hb);have n7_:=Am (bT (by repeat (first|(with_reducible first|exact HB.out|apply bA|apply bN|apply bD|refine bS ?_ GE613.out|refine bS ?_ GE621.out|refine bS ?_ GE629.out)|exact HB.out)) hb);clear HO_614001 HO_622001 HO_630001 BK613 BK621 BK629 HB;have HO_614001:=n0_;have HO_622001:=n1_;have HO_630001:=n2_;have HO636:=n3_;have BK613:=n4_;have BK621:=n5_;have BK629:=n6_;have HB:=n7_;clear n0_ n1_ n2_ n3_ n4_ n5_ n6_ n7_;(try clear hb);(try clear ho0))|((with_reducible refine gate_dst (N:=9) rfl ?_);refine box_event ?hg (N:=9) ?hd (cs:=#[.string (⟨#[]⟩:ByteArray), .slice none 0 0, .bool false, .string (⟨#[]⟩:ByteArray)]) (t:=25) ?hr ?_;(case hd=>rfl);(case hg=>rfl);(case hr=>(go_simp <;> rfl));intro gb640 hg w60 hbox hb;have n0_:=bH HO_614001 hb;have n1_:=bH HO_622001 hb;have n2_:=bH HO_630001 hb;have n3_:=bH HO636 hb;have n4_:=Am (blk_below (bB BK613.out) hb);have n5_:=Am (blk_below (bB BK621.out) hb);have n6_:=Am (blk_below (bB BK629.out) hb);have n7_:=Am (bT (by repeat (first|(with_reducible first|exact HB.out|apply bA|apply bN|apply bD|refine bS ?_ GE613.out|refine bS ?_ GE621.out|refine bS ?_ GE629.out)|exact HB.out)) hb);have n8_:=Am (hbox);have n9_:=Am ((by rw [hg];exact (bU (by repeat (first|(with_reducible first|exact HB.out|apply bA|apply bN|apply bD|refine bS ?_ GE613.out|refine bS ?_ GE621.out|refine bS ?_ GE629.out)|exact HB.out))):w.heap.size ≤ gb640));have n10_:=n9_;have n11_:=Am ((by rw [hg];exact Nat.ne_of_lt (blk_lt (bB BK613.out)):gb613 ≠ gb640));have n12_:=Am ((by rw [hg];exact Nat.ne_of_gt (blk_lt (bB BK613.out)):gb640 ≠ gb613));have n13_:=Am ((by rw [hg];exact Nat.ne_of_lt (blk_lt (bB BK621.out)):gb621 ≠ gb640));have n14_:=Am ((by rw [hg];exact Nat.ne_of_gt (blk_lt (bB BK621.out)):gb640 ≠ gb621));have n15_:=Am ((by rw [hg];exact Nat.ne_of_lt (blk_lt (bB BK629.out)):gb629 ≠ gb640));have n16_:=Am ((by rw [hg];exact Nat.ne_of_gt (blk_lt (bB BK629.out)):gb640 ≠ gb629));clear HO_614001 HO_622001 HO_630001 HO636 BK613 BK621 BK629 HB;have HO_614001:=n0_;have HO_622001:=n1_;have HO_630001:=n2_;have HO636:=n3_;have BK613:=n4_;have BK621:=n5_;have BK629:=n6_;have HB:=n7_;have BK640:=n8_;have GW640:=n9_;have GE640:=n10_;have NB613_640:=n11_;have NB640_613:=n12_;have NB621_640:=n13_;have NB640_621:=n14_;have NB629_640:=n15_;have NB640_629:=n16_;clear n0_ n1_ n2_ n3_ n4_ n5_ n6_ n7_ n8_ n9_ n10_ n11_ n12_ n13_ n14_ n15_ n16_ hb hbox hg;have hnb61:=NB640_613.out;have hnc61:=NB613_640.out;have hnb62:=NB640_621.out;have hnc62:=NB621_640.out;have hnb63:=NB640_629.out;have hnc63:=NB629_640.out;obtain ⟨hcz64_0,hcz64_1,hcz64_2,hcz64_3,hfz64_0,hfz64_1,hfz64_2,hfz64_3⟩:=bX BK640.out;obtain ⟨Ao65,co65,eo65⟩:=Kd.R_slice HO636.out;subst eo65;obtain ⟨hcz66_0,hcz66_1,hcz66_2,hcz66_3,hfz66_0,hfz66_1,hfz66_2,hfz66_3⟩:=bX BK613.out)|((with_reducible refine gate_callee (f:=13) rfl ?_);refine goesL_ (some 64) rfl rfl Tryd.func13 (by kernel_rfl) rfl #[.agg #[.string t606, .slice Ao10 t607.length co10, .bool t610, .string t611], .string (⟨#[35,116,104,101,114,101]⟩:ByteArray)] rfl (aE2 rfl rfl) ?_;(with_reducible refine (impl_AddrJoin.calls kj5 t606 _ _ t607 t610 t611 (⟨#[35,116,104,101,114,101]⟩:ByteArray) t641 t642 t645 t646 true _ ?side1 ?side2 A45.out).mono ?_);(case side1=>refine (Kd.R_reads' (e:=9) (base:=w.heap.size) (ok:=fun k_=>((some k_ ≠ (.slice Ao15 t615.length co15:Value).ownBlock ∧ some k_ ≠ (.slice Ao22 t623.length co22:Value).ownBlock) ∧ some k_ ≠ (.slice Ao65 t634.length co65:Value).ownBlock)) (n:=t607.length) (c:=co10) ?_).2.2;exact (by (with_reducible repeat (first|apply rA|apply rN|apply rD));exact (bQ HO_614001.out BK640.out (by decide) _ _ _ _)));(case side2=>exact (Kd.R_reads' HO_614001.out).2.1);rintro e w67 ⟨v643,rfl,ho0,hb⟩;refine ⟨_,rfl,?_⟩;have n0_:=Am (Kd.R_elder' (by (with_reducible repeat (first|apply rA|apply rN|apply rD));exact (bQ HO_614001.out BK640.out (by decide) _ _ _ _)) (Kd.R_base ho0) hb);have n1_:=Am (Kd.R_elder' (by (with_reducible repeat (first|apply rA|apply rN|apply rD));exact (bQ HO_622001.out BK640.out (by decide) _ _ _ _)) (Kd.R_base ho0) hb);have n2_:=Am (Kd.R_elder' (by (with_reducible repeat (first|apply rA|apply rN|apply rD));exact (bQ HO_630001.out BK640.out (by decide) _ _ _ _)) (Kd.R_base ho0) hb);have n3_:=Am (Kd.R_elder' (by (with_reducible repeat (first|apply rA|apply rN|apply rD));exact (bQ HO636.out BK640.out (by decide) _ _ _ _)) (Kd.R_base ho0) hb);have n4_:=Am (Kd.R_lower (Kd.R_new' (Kd.R_new' (Kd.R_new' (Kd.R_new' ho0 (Kd.R_lt (by (with_reducible repeat (first|apply rA|apply rN|apply rD));exact (bQ HO_614001.out BK640.out (by decide) _ _ _ _)))) (Kd.R_lt (by (with_reducible repeat (first|apply rA|apply rN|apply rD));exact (bQ HO_622001.out BK640.out (by decide) _ _ _ _)))) (Kd.R_lt (by (with_reducible repeat (first|apply rA|apply rN|apply rD));exact (bQ HO_630001.out BK640.out (by decide) _ _ _ _)))) (Kd.R_lt (by (with_reducible repeat (first|apply rA|apply rN|apply rD));exact (bQ HO636.out BK640.out (by decide) _ _ _ _)))) (bU (by repeat (first|(with_reducible first|exact HB.out|apply bA|apply bN|apply bD|refine bS ?_ GE613.out|refine bS ?_ GE621.out|refine bS ?_ GE629.out|refine bS ?_ GE640.out)|exact HB.out))));have n5_:=Am (blk_below (g:=gb613) (o:=.cells #[.string t606, .slice Ao10 t607.length co10, .bool t610, .string t611] 25 (0,0)) (by refine bB ?_;refine bF ?_ NB613_640.out;refine bB ?_;exact BK613.out) hb);have n6_:=Am (blk_below (g:=gb621) (o:=.cells #[.string t614, .slice Ao15 t615.length co15, .bool t618, .string t619] 25 (0,0)) (by refine bB ?_;refine bF ?_ NB621_640.out;refine bB ?_;exact BK621.out) hb);have n7_:=Am (blk_below (g:=gb629) (o:=.cells #[.string t622, .slice Ao22 t623.length co22, .bool t626, .string t627] 25 (0,0)) (by refine bB ?_;refine bF ?_ NB629_640.out;refine bB ?_;exact BK629.out) hb);have n8_:=Am (blk_below (g:=gb640) (o:=.cells #[.string t633, .slice Ao65 t634.length co65, .bool t637, .string t638] 25 (0,0)) (by refine bB ?_;apply bP;refine bB ?_;exact BK640.out) hb);have n9_:=Am (bT (by repeat (first|(with_reducible first|exact HB.out|apply bA|apply bN|apply bD|refine bS ?_ GE613.out|refine bS ?_ GE621.out|refine bS ?_ GE629.out|refine bS ?_ GE640.out)|exact HB.out)) hb);clear HO_614001 HO_622001 HO_630001 HO636 BK613 BK621 BK629 BK640 HB;have HO_614001:=n0_;have HO_622001:=n1_;have HO_630001:=n2_;have HO636:=n3_;have HO644:=n4_;have BK613:=n5_;have BK621:=n6_;have BK629:=n7_;have BK640:=n8_;have HB:=n9_;clear n0_ n1_ n2_ n3_ n4_ n5_ n6_ n7_ n8_ n9_;(try clear hb);(try clear ho0))|((with_reducible refine gate_dst (N:=11) rfl ?_);refine box_event ?hg (N:=11) ?hd (cs:=#[.string (⟨#[]⟩:ByteArray), .slice none 0 0, .bool false, .string (⟨#[]⟩:ByteArray)]) (t:=25) ?hr ?_;(case hd=>rfl);(case hg=>rfl);(case hr=>(go_simp <;> rfl));intro gb648 hg w68 hbox hb;have n0_:=bH HO_614001 hb;have n1_:=bH HO_622001 hb;have n2_:=bH HO_630001 hb;have n3_:=bH HO636 hb;have n4_:=bH HO644 hb;have n5_:=Am (blk_below (bB BK613.out) hb);have n6_:=Am (blk_below (bB BK621.out) hb);have n7_:=Am (blk_below (bB BK629.out) hb);have n8_:=Am (blk_below (bB BK640.out) hb);have n9_:=Am (bT (by repeat (first|(with_reducible first|exact HB.out|apply bA|apply bN|apply bD|refine bS ?_ GE613.out|refine bS ?_ GE621.out|refine bS ?_ GE629.out|refine bS ?_ GE640.out)|exact HB.out)) hb);have n10_:=Am (hbox);have n11_:=Am ((by rw [hg];exact (bU (by repeat (first|(with_reducible first|exact HB.out|apply bA|apply bN|apply bD|refine bS ?_ GE613.out|refine bS ?_ GE621.out|refine bS ?_ GE629.out|refine bS ?_ GE640.out)|exact HB.out))):w.heap.size ≤ gb648));have n12_:=n11_;have n13_:=Am ((by rw [hg];exact Nat.ne_of_lt (blk_lt (bB BK613.out)):gb613 ≠ gb648));have n14_:=Am ((by rw [hg];exact Nat.ne_of_gt (blk_lt (bB BK613.out)):gb648 ≠ gb613));have n15_:=Am ((by rw [hg];exact Nat.ne_of_lt (blk_lt (bB BK621.out)):gb621 ≠ gb648));have n16_:=Am ((by rw [hg];exact Nat.ne_of_gt (blk_lt (bB BK621.out)):gb648 ≠ gb621));have n17_:=Am ((by rw [hg];exact Nat.ne_of_lt (blk_lt (bB BK629.out)):gb629 ≠ gb648));have n18_:=Am ((by rw [hg];exact Nat.ne_of_gt (blk_lt (bB BK629.out)):gb648 ≠ gb629));have n19_:=Am ((by rw [hg];exact Nat.ne_of_lt (blk_lt (bB BK640.out)):gb640 ≠ gb648));have n20_:=Am ((by rw [hg];exact Nat.ne_of_gt (blk_lt (bB BK640.out)):gb648 ≠ gb640));clear HO_614001 HO_622001 HO_630001 HO636 HO644 BK613 BK621 BK629 BK640 HB;have HO_614001:=n0_;have HO_622001:=n1_;have HO_630001:=n2_;have HO636:=n3_;have HO644:=n4_;have BK613:=n5_;have BK621:=n6_;have BK629:=n7_;have BK640:=n8_;have HB:=n9_;have BK648:=n10_;have GW648:=n11_;have GE648:=n12_;have NB613_648:=n13_;have NB648_613:=n14_;have NB621_648:=n15_;have NB648_621:=n16_;have NB629_648:=n17_;have NB648_629:=n18_;have NB640_648:=n19_;have NB648_640:=n20_;clear n0_ n1_ n2_ n3_ n4_ n5_ n6_ n7_ n8_ n9_ n10_ n11_ n12_ n13_ n14_ n15_ n16_ n17_ n18_ n19_ n20_ hb hbox hg;have hnb69:=NB648_613.out;have hnc69:=NB613_648.out;have hnb70:=NB648_621.out;have hnc70:=NB621_648.out;have hnb71:=NB648_629.out;have hnc71:=NB629_648.out;have hnb72:=NB648_640.out;have hnc72:=NB640_648.out;obtain ⟨hcz73_0,hcz73_1,hcz73_2,hcz73_3,hfz73_0,hfz73_1,hfz73_2,hfz73_3⟩:=bX BK648.out;obtain ⟨Ao74,co74,eo74⟩:=Kd.R_slice HO644.out;subst eo74))
          have n0_:Aside0 (Kd.R Kd.string 9 ((((w68.setCell ⟨gb648,0,none⟩ (.string t641)).setCell ⟨gb648,1,none⟩ (.slice Ao74 t642.length co74)).setCell ⟨gb648,2,none⟩ (.bool t645)).setCell ⟨gb648,3,none⟩ (.string t646)) w.heap.size (fun k_=>some k_ ≠ (.slice Ao15 t615.length co15:Value).ownBlock ∧ some k_ ≠ (.slice Ao22 t623.length co22:Value).ownBlock ∧ some k_ ≠ (.slice Ao65 t634.length co65:Value).ownBlock ∧ some k_ ≠ (.slice Ao74 t642.length co74:Value).ownBlock) (.slice Ao10 t607.length co10) t607):=⟨by (with_reducible repeat (first|apply rA|apply rN|apply rD));exact Kd.R_mono (Kd.R_far (p:=⟨gb648,3,none⟩) (Kd.R_far (p:=⟨gb648,2,none⟩) (Kd.R_far (p:=⟨gb648,1,none⟩) (Kd.R_far (p:=⟨gb648,0,none⟩) (Kd.R_types HO_614001.out BK648.out (by decide)) (fun _ hk=>hk.2) (.string t641)) (fun _ hk=>hk.2) (.slice Ao74 t642.length co74)) (fun _ hk=>hk.2) (.bool t645)) (fun _ hk=>hk.2) (.string t646)) (fun _ hk=>⟨hk.1.1.1.1,⟨hk.1.1.1.2,⟨hk.1.1.2,hk.1.2⟩⟩⟩)⟩
          have n1_:Aside0 (Kd.R Kd.string 9 ((((w68.setCell ⟨gb648,0,none⟩ (.string t641)).setCell ⟨gb648,1,none⟩ (.slice Ao74 t642.length co74)).setCell ⟨gb648,2,none⟩ (.bool t645)).setCell ⟨gb648,3,none⟩ (.string t646)) w.heap.size (fun k_=>some k_ ≠ (.slice Ao10 t607.length co10:Value).ownBlock ∧ some k_ ≠ (.slice Ao22 t623.length co22:Value).ownBlock ∧ some k_ ≠ (.slice Ao65 t634.length co65:Value).ownBlock ∧ some k_ ≠ (.slice Ao74 t642.length co74:Value).ownBlock) (.slice Ao15 t615.length co15) t615):=⟨by (with_reducible repeat (first|apply rA|apply rN|apply rD));exact Kd.R_mono (Kd.R_far (p:=⟨gb648,3,none⟩) (Kd.R_far (p:=⟨gb648,2,none⟩) (Kd.R_far (p:=⟨gb648,1,none⟩) (Kd.R_far (p:=⟨gb648,0,none⟩) (Kd.R_types HO_622001.out BK648.out (by decide)) (fun _ hk=>hk.2) (.string t641)) (fun _ hk=>hk.2) (.slice Ao74 t642.length co74)) (fun _ hk=>hk.2) (.bool t645)) (fun _ hk=>hk.2) (.string t646)) (fun _ hk=>⟨hk.1.1.1.1,⟨hk.1.1.1.2,⟨hk.1.1.2,hk.1.2⟩⟩⟩)⟩
          have n2_:Aside0 (Kd.R Kd.string 9 ((((w68.setCell ⟨gb648,0,none⟩ (.string t641)).setCell ⟨gb648,1,none⟩ (.slice Ao74 t642.length co74)).setCell ⟨gb648,2,none⟩ (.bool t645)).setCell ⟨gb648,3,none⟩ (.string t646)) w.heap.size (fun k_=>some k_ ≠ (.slice Ao10 t607.length co10:Value).ownBlock ∧ some k_ ≠ (.slice Ao15 t615.length co15:Value).ownBlock ∧ some k_ ≠ (.slice Ao65 t634.length co65:Value).ownBlock ∧ some k_ ≠ (.slice Ao74 t642.length co74:Value).ownBlock) (.slice Ao22 t623.length co22) t623):=⟨by (with_reducible repeat (first|apply rA|apply rN|apply rD));exact Kd.R_mono (Kd.R_far (p:=⟨gb648,3,none⟩) (Kd.R_far (p:=⟨gb648,2,none⟩) (Kd.R_far (p:=⟨gb648,1,none⟩) (Kd.R_far (p:=⟨gb648,0,none⟩) (Kd.R_types HO_630001.out BK648.out (by decide)) (fun _ hk=>hk.2) (.string t641)) (fun _ hk=>hk.2) (.slice Ao74 t642.length co74)) (fun _ hk=>hk.2) (.bool t645)) (fun _ hk=>hk.2) (.string t646)) (fun _ hk=>⟨hk.1.1.1.1,⟨hk.1.1.1.2,⟨hk.1.1.2,hk.1.2⟩⟩⟩)⟩
          have n3_:Aside0 (Kd.R Kd.string 9 ((((w68.setCell ⟨gb648,0,none⟩ (.string t641)).setCell ⟨gb648,1,none⟩ (.slice Ao74 t642.length co74)).setCell ⟨gb648,2,none⟩ (.bool t645)).setCell ⟨gb648,3,none⟩ (.string t646)) w.heap.size (fun k_=>some k_ ≠ (.slice Ao10 t607.length co10:Value).ownBlock ∧ some k_ ≠ (.slice Ao15 t615.length co15:Value).ownBlock ∧ some k_ ≠ (.slice Ao22 t623.length co22:Value).ownBlock ∧ some k_ ≠ (.slice Ao74 t642.length co74:Value).ownBlock) (.slice Ao65 t634.length co65) t634):=⟨by (with_reducible repeat (first|apply rA|apply rN|apply rD));exact Kd.R_mono (Kd.R_far (p:=⟨gb648,3,none⟩) (Kd.R_far (p:=⟨gb648,2,none⟩) (Kd.R_far (p:=⟨gb648,1,none⟩) (Kd.R_far (p:=⟨gb648,0,none⟩) (Kd.R_types HO636.out BK648.out (by decide)) (fun _ hk=>hk.2) (.string t641)) (fun _ hk=>hk.2) (.slice Ao74 t642.length co74)) (fun _ hk=>hk.2) (.bool t645)) (fun _ hk=>hk.2) (.string t646)) (fun _ hk=>⟨hk.1.1.1.1.2,⟨hk.1.1.1.2,⟨hk.1.1.2,hk.1.2⟩⟩⟩)⟩
          have n4_:Aside0 (Kd.R Kd.string 9 ((((w68.setCell ⟨gb648,0,none⟩ (.string t641)).setCell ⟨gb648,1,none⟩ (.slice Ao74 t642.length co74)).setCell ⟨gb648,2,none⟩ (.bool t645)).setCell ⟨gb648,3,none⟩ (.string t646)) w.heap.size (fun k_=>some k_ ≠ (.slice Ao10 t607.length co10:Value).ownBlock ∧ some k_ ≠ (.slice Ao15 t615.length co15:Value).ownBlock ∧ some k_ ≠ (.slice Ao22 t623.length co22:Value).ownBlock ∧ some k_ ≠ (.slice Ao65 t634.length co65:Value).ownBlock) (.slice Ao74 t642.length co74) t642):=⟨by (with_reducible repeat (first|apply rA|apply rN|apply rD));exact Kd.R_mono (Kd.R_far (p:=⟨gb648,3,none⟩) (Kd.R_far (p:=⟨gb648,2,none⟩) (Kd.R_far (p:=⟨gb648,1,none⟩) (Kd.R_far (p:=⟨gb648,0,none⟩) (Kd.R_types HO644.out BK648.out (by decide)) (fun _ hk=>hk.2) (.string t641)) (fun _ hk=>hk.2) (.slice Ao74 t642.length co74)) (fun _ hk=>hk.2) (.bool t645)) (fun _ hk=>hk.2) (.string t646)) (fun _ hk=>⟨hk.1.1.1.1.2,⟨hk.1.1.1.2,⟨hk.1.1.2,hk.1.2⟩⟩⟩)⟩
          have n5_:Aside0 (((((w68.setCell ⟨gb648,0,none⟩ (.string t641)).setCell ⟨gb648,1,none⟩ (.slice Ao74 t642.length co74)).setCell ⟨gb648,2,none⟩ (.bool t645)).setCell ⟨gb648,3,none⟩ (.string t646)).heap[gb613]? = some (.cells #[.string t606, .slice Ao10 t607.length co10, .bool t610, .string t611] 25 (0,0))):=⟨by refine bB ?_;refine bF ?_ NB613_648.out;refine bB ?_;exact BK613.out⟩
          have n6_:Aside0 (((((w68.setCell ⟨gb648,0,none⟩ (.string t641)).setCell ⟨gb648,1,none⟩ (.slice Ao74 t642.length co74)).setCell ⟨gb648,2,none⟩ (.bool t645)).setCell ⟨gb648,3,none⟩ (.string t646)).heap[gb621]? = some (.cells #[.string t614, .slice Ao15 t615.length co15, .bool t618, .string t619] 25 (0,0))):=⟨by refine bB ?_;refine bF ?_ NB621_648.out;refine bB ?_;exact BK621.out⟩
          have n7_:Aside0 (((((w68.setCell ⟨gb648,0,none⟩ (.string t641)).setCell ⟨gb648,1,none⟩ (.slice Ao74 t642.length co74)).setCell ⟨gb648,2,none⟩ (.bool t645)).setCell ⟨gb648,3,none⟩ (.string t646)).heap[gb629]? = some (.cells #[.string t622, .slice Ao22 t623.length co22, .bool t626, .string t627] 25 (0,0))):=⟨by refine bB ?_;refine bF ?_ NB629_648.out;refine bB ?_;exact BK629.out⟩
          have n8_:Aside0 (((((w68.setCell ⟨gb648,0,none⟩ (.string t641)).setCell ⟨gb648,1,none⟩ (.slice Ao74 t642.length co74)).setCell ⟨gb648,2,none⟩ (.bool t645)).setCell ⟨gb648,3,none⟩ (.string t646)).heap[gb640]? = some (.cells #[.string t633, .slice Ao65 t634.length co65, .bool t637, .string t638] 25 (0,0))):=⟨by refine bB ?_;refine bF ?_ NB640_648.out;refine bB ?_;exact BK640.out⟩
          have n9_:Aside0 (((((w68.setCell ⟨gb648,0,none⟩ (.string t641)).setCell ⟨gb648,1,none⟩ (.slice Ao74 t642.length co74)).setCell ⟨gb648,2,none⟩ (.bool t645)).setCell ⟨gb648,3,none⟩ (.string t646)).heap[gb648]? = some (.cells #[.string t641, .slice Ao74 t642.length co74, .bool t645, .string t646] 25 (0,0))):=⟨by refine bB ?_;apply bP;refine bB ?_;exact BK648.out⟩
          have n10_:Aside0 (Below w.heap.size w ((((w68.setCell ⟨gb648,0,none⟩ (.string t641)).setCell ⟨gb648,1,none⟩ (.slice Ao74 t642.length co74)).setCell ⟨gb648,2,none⟩ (.bool t645)).setCell ⟨gb648,3,none⟩ (.string t646))):=⟨by repeat (first|(with_reducible first|exact HB.out|apply bA|apply bN|apply bD|refine bS ?_ GE613.out|refine bS ?_ GE621.out|refine bS ?_ GE629.out|refine bS ?_ GE640.out|refine bS ?_ GE648.out)|exact HB.out)⟩
          (try clear HO_614001)
          (try clear HO_622001)
          (try clear HO_630001)
          (try clear HO636)
          (try clear HO644)
          (try clear BK613)
          (try clear BK621)
          (try clear BK629)
          (try clear BK640)
          (try clear BK648)
          (try clear HB)
          generalize ((((w68.setCell ⟨gb648,0,none⟩ (.string t641)).setCell ⟨gb648,1,none⟩ (.slice Ao74 t642.length co74)).setCell ⟨gb648,2,none⟩ (.bool t645)).setCell ⟨gb648,3,none⟩ (.string t646)) = w75 at n0_ n1_ n2_ n3_ n4_ n5_ n6_ n7_ n8_ n9_ n10_ ⊢
          have HO_614001:=n0_
          have HO_622001:=n1_
          have HO_630001:=n2_
          have HO636:=n3_
          have HO644:=n4_
          have BK613:=n5_
          have BK621:=n6_
          have BK629:=n7_
          have BK640:=n8_
          have BK648:=n9_
          have HB:=n10_
          clear n0_ n1_ n2_ n3_ n4_ n5_ n6_ n7_ n8_ n9_ n10_
          have n0_:=Am (Kd.R_drew HO_614001.out)
          have n1_:=Am (Kd.R_drew HO_622001.out)
          have n2_:=Am (Kd.R_drew HO_630001.out)
          have n3_:=Am (Kd.R_drew HO636.out)
          have n4_:=Am (Kd.R_drew HO644.out)
          have n5_:=Am (blk_drew BK613.out)
          have n6_:=Am (blk_drew BK621.out)
          have n7_:=Am (blk_drew BK629.out)
          have n8_:=Am (blk_drew BK640.out)
          have n9_:=Am (blk_drew BK648.out)
          have n10_:=Am (below_drew1 HB.out)
          clear HO_614001
          clear HO_622001
          clear HO_630001
          clear HO636
          clear HO644
          clear BK613
          clear BK621
          clear BK629
          clear BK640
          clear BK648
          clear HB
          have HO_614001:=n0_
          have HO_622001:=n1_
          have HO_630001:=n2_
          have HO636:=n3_
          have HO644:=n4_
          have BK613:=n5_
          have BK621:=n6_
          have BK629:=n7_
          have BK640:=n8_
          have BK648:=n9_
          have HB:=n10_
          clear n0_ n1_ n2_ n3_ n4_ n5_ n6_ n7_ n8_ n9_ n10_
          refine start_ (n:=10) (S:=fun w'=>w'.cell? ⟨gb613,0,none⟩ = some (.string t606) ∧ w'.cell? ⟨gb613,1,none⟩ = some (.slice Ao10 t607.length co10) ∧ w'.cell? ⟨gb613,2,none⟩ = some (.bool t610) ∧ w'.cell? ⟨gb613,3,none⟩ = some (.string t611)) (ds:=[]) #[false,false,false,false,false,false,false,false,false,false] (by kernel_rfl) rfl rfl ⟨bM BK613.out 0 rfl,bM BK613.out 1 rfl,bM BK613.out 2 rfl,bM BK613.out 3 rfl⟩ (fun hHeld=>?_);refine with_tabW laws_FnJoinSelf.tab10 laws_FnJoinSelf.bits10 (fun HT_ HW_=>?_)
          generalize w75.drew = w76 at HO_614001 HO_622001 HO_630001 HO636 HO644 BK613 BK621 BK629 BK640 BK648 HB hHeld ⊢
          refine take_ (i:=0) (N:=some 68) (v:=?_) (a':=?_) #[true,false,false,false,false,false,false,false,false,false] rfl rfl (take_ofW HT_.out HW_.out (by kernel_rfl)) (fun _ _ _ h=>h) (Or.inl ⟨by rfl,?_⟩) hHeld ?_ ?_
          rotate_left
          ·rintro w' ⟨s0,s1,s2,s3⟩
           go_simp
           with_reducible rfl
          rotate_left
          ·simp only [Act.put,lT,lZ,lS,i64_w,i32_w]
           rfl
          refine take_ (i:=1) (N:=some 69) (v:=?_) (a':=?_) #[true,true,false,false,false,false,false,false,false,false] rfl rfl (take_ofW HT_.out HW_.out (by kernel_rfl)) (fun _ _ _ h=>h) (Or.inl ⟨by rfl,?_⟩) hHeld ?_ ?_
          rotate_left
          ·rintro w' ⟨s0,s1,s2,s3⟩
           go_simp
           with_reducible rfl
          rotate_left
          ·simp only [Act.put,lT,lZ,lS,i64_w,i32_w]
           rfl
          refine join_ (σ:=Value × Nat) 2 #[true,true,true,true,true,true,true,true,false,false] (fun s_=>[(70, .string t649),(71, .tuple #[.agg #[.string t650,s_.1, .bool t654, .string t655], .bool true]),(13, .pointer (some ⟨s_.2,0,none⟩)),(67, .tuple #[.agg #[.string t650,s_.1, .bool t654, .string t655], .bool true]),(72, .agg #[.string t650,s_.1, .bool t654, .string t655]),(73, .bool true)]) (fun s_ w'=>(w'.cell? ⟨gb613,0,none⟩ = some (.string t606) ∧ w'.cell? ⟨gb613,1,none⟩ = some (.slice Ao10 t607.length co10) ∧ w'.cell? ⟨gb613,2,none⟩ = some (.bool t610) ∧ w'.cell? ⟨gb613,3,none⟩ = some (.string t611)) ∧ (Kd.R Kd.string 9 w' w.heap.size (fun k_=>some k_ ≠ (.slice Ao74 t642.length co74:Value).ownBlock ∧ some k_ ≠ (s_.1:Value).ownBlock ∧ some k_ ≠ (.slice Ao10 t607.length co10:Value).ownBlock ∧ some k_ ≠ (.slice Ao15 t615.length co15:Value).ownBlock ∧ some k_ ≠ (.slice Ao22 t623.length co22:Value).ownBlock) (.slice Ao65 t634.length co65) t634) ∧ (Kd.R Kd.string 9 w' w.heap.size (fun k_=>some k_ ≠ (.slice Ao65 t634.length co65:Value).ownBlock ∧ some k_ ≠ (s_.1:Value).ownBlock ∧ some k_ ≠ (.slice Ao10 t607.length co10:Value).ownBlock ∧ some k_ ≠ (.slice Ao15 t615.length co15:Value).ownBlock ∧ some k_ ≠ (.slice Ao22 t623.length co22:Value).ownBlock) (.slice Ao74 t642.length co74) t642) ∧ (Kd.R Kd.string 9 w' w.heap.size (fun k_=>some k_ ≠ (.slice Ao65 t634.length co65:Value).ownBlock ∧ some k_ ≠ (.slice Ao74 t642.length co74:Value).ownBlock ∧ some k_ ≠ (.slice Ao10 t607.length co10:Value).ownBlock ∧ some k_ ≠ (.slice Ao15 t615.length co15:Value).ownBlock ∧ some k_ ≠ (.slice Ao22 t623.length co22:Value).ownBlock) s_.1 t651) ∧ (Kd.R Kd.string 9 w' w.heap.size (fun k_=>some k_ ≠ (.slice Ao65 t634.length co65:Value).ownBlock ∧ some k_ ≠ (.slice Ao74 t642.length co74:Value).ownBlock ∧ some k_ ≠ (s_.1:Value).ownBlock ∧ some k_ ≠ (.slice Ao15 t615.length co15:Value).ownBlock ∧ some k_ ≠ (.slice Ao22 t623.length co22:Value).ownBlock) (.slice Ao10 t607.length co10) t607) ∧ (Kd.R Kd.string 9 w' w.heap.size (fun k_=>some k_ ≠ (.slice Ao65 t634.length co65:Value).ownBlock ∧ some k_ ≠ (.slice Ao74 t642.length co74:Value).ownBlock ∧ some k_ ≠ (s_.1:Value).ownBlock ∧ some k_ ≠ (.slice Ao10 t607.length co10:Value).ownBlock ∧ some k_ ≠ (.slice Ao22 t623.length co22:Value).ownBlock) (.slice Ao15 t615.length co15) t615) ∧ (Kd.R Kd.string 9 w' w.heap.size (fun k_=>some k_ ≠ (.slice Ao65 t634.length co65:Value).ownBlock ∧ some k_ ≠ (.slice Ao74 t642.length co74:Value).ownBlock ∧ some k_ ≠ (s_.1:Value).ownBlock ∧ some k_ ≠ (.slice Ao10 t607.length co10:Value).ownBlock ∧ some k_ ≠ (.slice Ao15 t615.length co15:Value).ownBlock) (.slice Ao22 t623.length co22) t623) ∧ (w'.heap[gb613]? = some (.cells #[.string t606, .slice Ao10 t607.length co10, .bool t610, .string t611] 25 (0,0))) ∧ (w'.heap[gb621]? = some (.cells #[.string t614, .slice Ao15 t615.length co15, .bool t618, .string t619] 25 (0,0))) ∧ (w'.heap[gb629]? = some (.cells #[.string t622, .slice Ao22 t623.length co22, .bool t626, .string t627] 25 (0,0))) ∧ (w'.heap[gb640]? = some (.cells #[.string t633, .slice Ao65 t634.length co65, .bool t637, .string t638] 25 (0,0))) ∧ (w'.heap[gb648]? = some (.cells #[.string t641, .slice Ao74 t642.length co74, .bool t645, .string t646] 25 (0,0))) ∧ (w'.heap[s_.2]? = some (.cells #[.string (⟨#[]⟩:ByteArray), .slice none 0 0, .bool false, .string (⟨#[]⟩:ByteArray)] 25 (0,0))) ∧ (w.heap.size ≤ s_.2) ∧ (w.heap.size ≤ s_.2) ∧ (gb613 ≠ s_.2) ∧ (s_.2 ≠ gb613) ∧ (gb621 ≠ s_.2) ∧ (s_.2 ≠ gb621) ∧ (gb629 ≠ s_.2) ∧ (s_.2 ≠ gb629) ∧ (gb640 ≠ s_.2) ∧ (s_.2 ≠ gb640) ∧ (gb648 ≠ s_.2) ∧ (s_.2 ≠ gb648) ∧ (Below w.heap.size w w')) ?_ ?_
          rotate_left
          ·intro hCont
           refine two_ (i:=2) (j:=7) (Ni:=some 70) (Nj:=some 13) #[true,true,true,false,false,false,false,false,false,false] #[true,true,false,false,false,false,false,true,false,false] rfl rfl rfl rfl (two_of HT_.out (by kernel_rfl)) (by decide) (by decide) (fun K hK=>?_) (fun K hK=>?_)
           ·skip
            refine goes_ Tryd.func16 (by kernel_rfl) rfl #[.agg #[.string t606, .slice Ao10 t607.length co10, .bool t610, .string t611]] (by rfl) rfl rfl (by (try simp only [List.map_toArray,List.map_cons,List.map_nil]);first|done|rfl|(simp only [List.length_drop,List.length_take];rfl)) ?_
            with_reducible refine (impl_AddrPath.calls kj5 t606 _ _ t607 t610 t611 t649 _ ?side1 ?side2 A46.out).mono ?_
            (case side1=>repeat (first|exact (Kd.R_reads' HO_614001.out).2.2|(with_reducible refine bC ?_)))
            (case side2=>exact (Kd.R_reads' HO_614001.out).2.1)
            rintro e w77 ⟨rfl,hb⟩
            refine ⟨_,rfl,?_⟩
            have n0_:=bH HO_614001 hb
            have n1_:=bH HO_622001 hb
            have n2_:=bH HO_630001 hb
            have n3_:=bH HO636 hb
            have n4_:=bH HO644 hb
            have n5_:=Am (blk_below (bB BK613.out) hb)
            have n6_:=Am (blk_below (bB BK621.out) hb)
            have n7_:=Am (blk_below (bB BK629.out) hb)
            have n8_:=Am (blk_below (bB BK640.out) hb)
            have n9_:=Am (blk_below (bB BK648.out) hb)
            have n10_:=Am (bT (by repeat (first|(with_reducible first|exact HB.out|apply bA|apply bN|apply bD|refine bS ?_ GE613.out|refine bS ?_ GE621.out|refine bS ?_ GE629.out|refine bS ?_ GE640.out|refine bS ?_ GE648.out)|exact HB.out)) hb)
            clear HO_614001
            clear HO_622001
            clear HO_630001
            clear HO636
            clear HO644
            clear BK613
            clear BK621
            clear BK629
            clear BK640
            clear BK648
            clear HB
            have HO_614001:=n0_
            have HO_622001:=n1_
            have HO_630001:=n2_
            have HO636:=n3_
            have HO644:=n4_
            have BK613:=n5_
            have BK621:=n6_
            have BK629:=n7_
            have BK640:=n8_
            have BK648:=n9_
            have HB:=n10_
            clear n0_ n1_ n2_ n3_ n4_ n5_ n6_ n7_ n8_ n9_ n10_
            (try clear hb)
            (try clear hb2)
            (try clear hk)
            (try clear hi)
            refine hK.out _ _ ⟨bM BK613.out 0 rfl,bM BK613.out 1 rfl,bM BK613.out 2 rfl,bM BK613.out 3 rfl⟩ (fun hHeld=>?_)
            clear hK K
            refine norm_ (a':=?_) ?_ ?_
            rotate_left
            ·show Act.put _ (some 70) _ = _
             simp only [Act.put,lT,lZ,lS,i64_w,i32_w]
             rfl
            refine two_ (i:=3) (j:=7) (Ni:=some 71) (Nj:=some 13) #[true,true,true,true,false,false,false,false,false,false] #[true,true,true,false,false,false,false,true,false,false] rfl rfl rfl rfl (two_of HT_.out (by kernel_rfl)) (by decide) (by decide) (fun K hK=>?_) (fun K hK=>?_)
            ·skip
             refine goes_ Tryd.func13 (by kernel_rfl) rfl #[.agg #[.string t606, .slice Ao10 t607.length co10, .bool t610, .string t611], .string t649] (by rfl) rfl rfl (by (try simp only [List.map_toArray,List.map_cons,List.map_nil]);first|done|rfl|(simp only [List.length_drop,List.length_take];rfl)) ?_
             with_reducible refine (impl_AddrJoin.calls kj5 t606 _ _ t607 t610 t611 t649 t650 t651 t654 t655 true _ ?side1 ?side2 A47.out).mono ?_
             (case side1=>repeat (first|exact (Kd.R_reads' HO_614001.out).2.2|(with_reducible refine bC ?_)))
             (case side2=>exact (Kd.R_reads' HO_614001.out).2.1)
             rintro e w78 ⟨v652,rfl,ho0,hb⟩
             refine ⟨_,rfl,?_⟩
             have n0_:=Am (Kd.R_elder' (bR HO_614001.out) (Kd.R_base ho0) hb)
             have n1_:=Am (Kd.R_elder' (bR HO_622001.out) (Kd.R_base ho0) hb)
             have n2_:=Am (Kd.R_elder' (bR HO_630001.out) (Kd.R_base ho0) hb)
             have n3_:=Am (Kd.R_elder' (bR HO636.out) (Kd.R_base ho0) hb)
             have n4_:=Am (Kd.R_elder' (bR HO644.out) (Kd.R_base ho0) hb)
             have n5_:=Am (Kd.R_lower (Kd.R_new' (Kd.R_new' (Kd.R_new' (Kd.R_new' (Kd.R_new' ho0 (Kd.R_lt (bR HO_614001.out))) (Kd.R_lt (bR HO_622001.out))) (Kd.R_lt (bR HO_630001.out))) (Kd.R_lt (bR HO636.out))) (Kd.R_lt (bR HO644.out))) (bU (by repeat (first|(with_reducible first|exact HB.out|apply bA|apply bN|apply bD|refine bS ?_ GE613.out|refine bS ?_ GE621.out|refine bS ?_ GE629.out|refine bS ?_ GE640.out|refine bS ?_ GE648.out)|exact HB.out))))
             have n6_:=Am (blk_below (bB BK613.out) hb)
             have n7_:=Am (blk_below (bB BK621.out) hb)
             have n8_:=Am (blk_below (bB BK629.out) hb)
             have n9_:=Am (blk_below (bB BK640.out) hb)
             have n10_:=Am (blk_below (bB BK648.out) hb)
             have n11_:=Am (bT (by repeat (first|(with_reducible first|exact HB.out|apply bA|apply bN|apply bD|refine bS ?_ GE613.out|refine bS ?_ GE621.out|refine bS ?_ GE629.out|refine bS ?_ GE640.out|refine bS ?_ GE648.out)|exact HB.out)) hb)
             clear HO_614001
             clear HO_622001
             clear HO_630001
             clear HO636
             clear HO644
             clear BK613
             clear BK621
             clear BK629
             clear BK640
             clear BK648
             clear HB
             have HO_614001:=n0_
             have HO_622001:=n1_
             have HO_630001:=n2_
             have HO636:=n3_
             have HO644:=n4_
             have HO653:=n5_
             have BK613:=n6_
             have BK621:=n7_
             have BK629:=n8_
             have BK640:=n9_
             have BK648:=n10_
             have HB:=n11_
             clear n0_ n1_ n2_ n3_ n4_ n5_ n6_ n7_ n8_ n9_ n10_ n11_
             (try clear hb)
             (try clear hb2)
             (try clear hk)
             (try clear hi)
             (try clear ho0)
             refine hK.out _ _ ⟨bM BK613.out 0 rfl,bM BK613.out 1 rfl,bM BK613.out 2 rfl,bM BK613.out 3 rfl⟩ (fun hHeld=>?_)
             clear hK K
             refine norm_ (a':=?_) ?_ ?_
             rotate_left
             ·show Act.put _ (some 71) _ = _
              simp only [Act.put,lT,lZ,lS,i64_w,i32_w]
              rfl
             refine pure_ (i:=4) (N:=some 67) (v:=?_) (a':=?_) #[true,true,true,true,true,false,false,false,false,false] rfl rfl (any_of HT_.out (by kernel_rfl)) (fun _ _ _ h=>h) (Or.inl ⟨by rfl,?_⟩) ?_ ?_
             rotate_left
             ·intro w'
              go_simp
              with_reducible rfl
             rotate_left
             ·simp only [Act.put,lT,lZ,lS,i64_w,i32_w]
              rfl
             refine pure_ (i:=5) (N:=some 72) (v:=?_) (a':=?_) #[true,true,true,true,true,true,false,false,false,false] rfl rfl (any_of HT_.out (by kernel_rfl)) (fun _ _ _ h=>h) (Or.inl ⟨by rfl,?_⟩) ?_ ?_
             rotate_left
             ·intro w'
              go_simp
              with_reducible rfl
             rotate_left
             ·simp only [Act.put,lT,lZ,lS,i64_w,i32_w]
              rfl
             refine pure_ (i:=6) (N:=some 73) (v:=?_) (a':=?_) #[true,true,true,true,true,true,true,false,false,false] rfl rfl (any_of HT_.out (by kernel_rfl)) (fun _ _ _ h=>h) (Or.inl ⟨by rfl,?_⟩) ?_ ?_
             rotate_left
             ·intro w'
              go_simp
              with_reducible rfl
             rotate_left
             ·simp only [Act.put,lT,lZ,lS,i64_w,i32_w]
              rfl
             refine one_ (i:=7) (N:=some 13) #[true,true,true,true,true,true,true,true,false,false] rfl rfl (one_of HT_.out (by kernel_rfl)) (by decide) (fun K hK=>?_)
             refine box_step ?hg (N:=13) ?hd (cs:=#[.string (⟨#[]⟩:ByteArray), .slice none 0 0, .bool false, .string (⟨#[]⟩:ByteArray)]) (t:=25) ?hr ?_;(case hd=>rfl);(case hg=>rfl);(case hr=>(go_simp <;> rfl))
             intro gb657 hg w79 hbox hb
             have n0_:=bH HO_614001 hb
             have n1_:=bH HO_622001 hb
             have n2_:=bH HO_630001 hb
             have n3_:=bH HO636 hb
             have n4_:=bH HO644 hb
             have n5_:=bH HO653 hb
             have n6_:=Am (blk_below (bB BK613.out) hb)
             have n7_:=Am (blk_below (bB BK621.out) hb)
             have n8_:=Am (blk_below (bB BK629.out) hb)
             have n9_:=Am (blk_below (bB BK640.out) hb)
             have n10_:=Am (blk_below (bB BK648.out) hb)
             have n11_:=Am (bT (by repeat (first|(with_reducible first|exact HB.out|apply bA|apply bN|apply bD|refine bS ?_ GE613.out|refine bS ?_ GE621.out|refine bS ?_ GE629.out|refine bS ?_ GE640.out|refine bS ?_ GE648.out)|exact HB.out)) hb)
             have n12_:=Am (hbox)
             have n13_:=Am ((by rw [hg];exact (bU (by repeat (first|(with_reducible first|exact HB.out|apply bA|apply bN|apply bD|refine bS ?_ GE613.out|refine bS ?_ GE621.out|refine bS ?_ GE629.out|refine bS ?_ GE640.out|refine bS ?_ GE648.out)|exact HB.out))):w.heap.size ≤ gb657))
             have n14_:=Am ((by rw [hg];exact (bU (by repeat (first|(with_reducible first|exact HB.out|apply bA|apply bN|apply bD|refine bS ?_ GE613.out|refine bS ?_ GE621.out|refine bS ?_ GE629.out|refine bS ?_ GE640.out|refine bS ?_ GE648.out)|exact HB.out))):w.heap.size ≤ gb657))
             have n15_:=Am ((by rw [hg];exact Nat.ne_of_lt (blk_lt (bB BK613.out)):gb613 ≠ gb657))
             have n16_:=Am ((by rw [hg];exact Nat.ne_of_gt (blk_lt (bB BK613.out)):gb657 ≠ gb613))
             have n17_:=Am ((by rw [hg];exact Nat.ne_of_lt (blk_lt (bB BK621.out)):gb621 ≠ gb657))
             have n18_:=Am ((by rw [hg];exact Nat.ne_of_gt (blk_lt (bB BK621.out)):gb657 ≠ gb621))
             have n19_:=Am ((by rw [hg];exact Nat.ne_of_lt (blk_lt (bB BK629.out)):gb629 ≠ gb657))
             have n20_:=Am ((by rw [hg];exact Nat.ne_of_gt (blk_lt (bB BK629.out)):gb657 ≠ gb629))
             have n21_:=Am ((by rw [hg];exact Nat.ne_of_lt (blk_lt (bB BK640.out)):gb640 ≠ gb657))
             have n22_:=Am ((by rw [hg];exact Nat.ne_of_gt (blk_lt (bB BK640.out)):gb657 ≠ gb640))
             have n23_:=Am ((by rw [hg];exact Nat.ne_of_lt (blk_lt (bB BK648.out)):gb648 ≠ gb657))
             have n24_:=Am ((by rw [hg];exact Nat.ne_of_gt (blk_lt (bB BK648.out)):gb657 ≠ gb648))
             clear HO_614001
             clear HO_622001
             clear HO_630001
             clear HO636
             clear HO644
             clear HO653
             clear BK613
             clear BK621
             clear BK629
             clear BK640
             clear BK648
             clear HB
             have HO_614001:=n0_
             have HO_622001:=n1_
             have HO_630001:=n2_
             have HO636:=n3_
             have HO644:=n4_
             have HO653:=n5_
             have BK613:=n6_
             have BK621:=n7_
             have BK629:=n8_
             have BK640:=n9_
             have BK648:=n10_
             have HB:=n11_
             have BK657:=n12_
             have GW657:=n13_
             have GE657:=n14_
             have NB613_657:=n15_
             have NB657_613:=n16_
             have NB621_657:=n17_
             have NB657_621:=n18_
             have NB629_657:=n19_
             have NB657_629:=n20_
             have NB640_657:=n21_
             have NB657_640:=n22_
             have NB648_657:=n23_
             have NB657_648:=n24_
             clear n0_ n1_ n2_ n3_ n4_ n5_ n6_ n7_ n8_ n9_ n10_ n11_ n12_ n13_ n14_ n15_ n16_ n17_ n18_ n19_ n20_ n21_ n22_ n23_ n24_
             clear hb hbox hg
             refine hK.out _ _ ⟨bM BK613.out 0 rfl,bM BK613.out 1 rfl,bM BK613.out 2 rfl,bM BK613.out 3 rfl⟩ (fun hHeld=>?_)
             clear hK K
             refine norm_ (a':=?_) ?_ ?_
             rotate_left
             ·show Act.put _ (some 13) _ = _
              simp only [Act.put,lT,lZ,lS,i64_w,i32_w]
              rfl
             exact norm_ (by simp only [putAll,Act.put,lT,lZ,lS]) (hCont (v652,gb657) _ ⟨hHeld,(by (with_reducible repeat (first|apply rA|apply rN|apply rD));exact Kd.R_mono HO636.out (fun _ hk=>⟨hk.1.2.2.2,⟨hk.2,⟨hk.1.1,⟨hk.1.2.1,hk.1.2.2.1⟩⟩⟩⟩)),(by (with_reducible repeat (first|apply rA|apply rN|apply rD));exact Kd.R_mono HO644.out (fun _ hk=>⟨hk.1.2.2.2,⟨hk.2,⟨hk.1.1,⟨hk.1.2.1,hk.1.2.2.1⟩⟩⟩⟩)),(by (with_reducible repeat (first|apply rA|apply rN|apply rD));exact Kd.R_mono HO653.out (fun _ hk=>⟨hk.1.2,⟨hk.2,⟨hk.1.1.1.1.2,⟨hk.1.1.1.2,hk.1.1.2⟩⟩⟩⟩)),(by (with_reducible repeat (first|apply rA|apply rN|apply rD));exact Kd.R_mono HO_614001.out (fun _ hk=>⟨hk.1.2.2.1,⟨hk.1.2.2.2,⟨hk.2,⟨hk.1.1,hk.1.2.1⟩⟩⟩⟩)),(by (with_reducible repeat (first|apply rA|apply rN|apply rD));exact Kd.R_mono HO_622001.out (fun _ hk=>⟨hk.1.2.2.1,⟨hk.1.2.2.2,⟨hk.2,⟨hk.1.1,hk.1.2.1⟩⟩⟩⟩)),(by (with_reducible repeat (first|apply rA|apply rN|apply rD));exact Kd.R_mono HO_630001.out (fun _ hk=>⟨hk.1.2.2.1,⟨hk.1.2.2.2,⟨hk.2,⟨hk.1.1,hk.1.2.1⟩⟩⟩⟩)),(bB BK613.out),(bB BK621.out),(bB BK629.out),(bB BK640.out),(bB BK648.out),(bB BK657.out),GW657.out,GE657.out,NB613_657.out,NB657_613.out,NB621_657.out,NB657_621.out,NB629_657.out,NB657_629.out,NB640_657.out,NB657_640.out,NB648_657.out,NB657_648.out,(by repeat (first|(with_reducible first|exact HB.out|apply bA|apply bN|apply bD|refine bS ?_ GE613.out|refine bS ?_ GE621.out|refine bS ?_ GE629.out|refine bS ?_ GE640.out|refine bS ?_ GE648.out|refine bS ?_ GE657.out)|exact HB.out))⟩)
            ·skip
             refine box_step ?hg (N:=13) ?hd (cs:=#[.string (⟨#[]⟩:ByteArray), .slice none 0 0, .bool false, .string (⟨#[]⟩:ByteArray)]) (t:=25) ?hr ?_;(case hd=>rfl);(case hg=>rfl);(case hr=>(go_simp <;> rfl))
             intro gb657 hg w78 hbox hb
             have n0_:=bH HO_614001 hb
             have n1_:=bH HO_622001 hb
             have n2_:=bH HO_630001 hb
             have n3_:=bH HO636 hb
             have n4_:=bH HO644 hb
             have n5_:=Am (blk_below (bB BK613.out) hb)
             have n6_:=Am (blk_below (bB BK621.out) hb)
             have n7_:=Am (blk_below (bB BK629.out) hb)
             have n8_:=Am (blk_below (bB BK640.out) hb)
             have n9_:=Am (blk_below (bB BK648.out) hb)
             have n10_:=Am (bT (by repeat (first|(with_reducible first|exact HB.out|apply bA|apply bN|apply bD|refine bS ?_ GE613.out|refine bS ?_ GE621.out|refine bS ?_ GE629.out|refine bS ?_ GE640.out|refine bS ?_ GE648.out)|exact HB.out)) hb)
             have n11_:=Am (hbox)
             have n12_:=Am ((by rw [hg];exact (bU (by repeat (first|(with_reducible first|exact HB.out|apply bA|apply bN|apply bD|refine bS ?_ GE613.out|refine bS ?_ GE621.out|refine bS ?_ GE629.out|refine bS ?_ GE640.out|refine bS ?_ GE648.out)|exact HB.out))):w.heap.size ≤ gb657))
             have n13_:=Am ((by rw [hg];exact (bU (by repeat (first|(with_reducible first|exact HB.out|apply bA|apply bN|apply bD|refine bS ?_ GE613.out|refine bS ?_ GE621.out|refine bS ?_ GE629.out|refine bS ?_ GE640.out|refine bS ?_ GE648.out)|exact HB.out))):w.heap.size ≤ gb657))
             have n14_:=Am ((by rw [hg];exact Nat.ne_of_lt (blk_lt (bB BK613.out)):gb613 ≠ gb657))
             have n15_:=Am ((by rw [hg];exact Nat.ne_of_gt (blk_lt (bB BK613.out)):gb657 ≠ gb613))
             have n16_:=Am ((by rw [hg];exact Nat.ne_of_lt (blk_lt (bB BK621.out)):gb621 ≠ gb657))
             have n17_:=Am ((by rw [hg];exact Nat.ne_of_gt (blk_lt (bB BK621.out)):gb657 ≠ gb621))
             have n18_:=Am ((by rw [hg];exact Nat.ne_of_lt (blk_lt (bB BK629.out)):gb629 ≠ gb657))
             have n19_:=Am ((by rw [hg];exact Nat.ne_of_gt (blk_lt (bB BK629.out)):gb657 ≠ gb629))
             have n20_:=Am ((by rw [hg];exact Nat.ne_of_lt (blk_lt (bB BK640.out)):gb640 ≠ gb657))
             have n21_:=Am ((by rw [hg];exact Nat.ne_of_gt (blk_lt (bB BK640.out)):gb657 ≠ gb640))
             have n22_:=Am ((by rw [hg];exact Nat.ne_of_lt (blk_lt (bB BK648.out)):gb648 ≠ gb657))
             have n23_:=Am ((by rw [hg];exact Nat.ne_of_gt (blk_lt (bB BK648.out)):gb657 ≠ gb648))
             clear HO_614001
             clear HO_622001
             clear HO_630001
             clear HO636
             clear HO644
             clear BK613
             clear BK621
             clear BK629
             clear BK640
             clear BK648
             clear HB
             have HO_614001:=n0_
             have HO_622001:=n1_
             have HO_630001:=n2_
             have HO636:=n3_
             have HO644:=n4_
             have BK613:=n5_
             have BK621:=n6_
             have BK629:=n7_
             have BK640:=n8_
             have BK648:=n9_
             have HB:=n10_
             have BK657:=n11_
             have GW657:=n12_
             have GE657:=n13_
             have NB613_657:=n14_
             have NB657_613:=n15_
             have NB621_657:=n16_
             have NB657_621:=n17_
             have NB629_657:=n18_
             have NB657_629:=n19_
             have NB640_657:=n20_
             have NB657_640:=n21_
             have NB648_657:=n22_
             have NB657_648:=n23_
             clear n0_ n1_ n2_ n3_ n4_ n5_ n6_ n7_ n8_ n9_ n10_ n11_ n12_ n13_ n14_ n15_ n16_ n17_ n18_ n19_ n20_ n21_ n22_ n23_
             clear hb hbox hg
             refine hK.out _ _ ⟨bM BK613.out 0 rfl,bM BK613.out 1 rfl,bM BK613.out 2 rfl,bM BK613.out 3 rfl⟩ (fun hHeld=>?_)
             clear hK K
             refine norm_ (a':=?_) ?_ ?_
             rotate_left
             ·show Act.put _ (some 13) _ = _
              simp only [Act.put,lT,lZ,lS,i64_w,i32_w]
              rfl
             refine one_ (i:=3) (N:=some 71) #[true,true,true,true,false,false,false,true,false,false] rfl rfl (one_of HT_.out (by kernel_rfl)) (by decide) (fun K hK=>?_)
             refine goes_ Tryd.func13 (by kernel_rfl) rfl #[.agg #[.string t606, .slice Ao10 t607.length co10, .bool t610, .string t611], .string t649] (by rfl) rfl rfl (by (try simp only [List.map_toArray,List.map_cons,List.map_nil]);first|done|rfl|(simp only [List.length_drop,List.length_take];rfl)) ?_
             with_reducible refine (impl_AddrJoin.calls kj5 t606 _ _ t607 t610 t611 t649 t650 t651 t654 t655 true _ ?side1 ?side2 A47.out).mono ?_
             (case side1=>repeat (first|exact (Kd.R_reads' HO_614001.out).2.2|(with_reducible refine bC ?_)))
             (case side2=>exact (Kd.R_reads' HO_614001.out).2.1)
             rintro e w79 ⟨v652,rfl,ho0,hb⟩
             refine ⟨_,rfl,?_⟩
             have n0_:=Am (Kd.R_elder' (bR HO_614001.out) (Kd.R_base ho0) hb)
             have n1_:=Am (Kd.R_elder' (bR HO_622001.out) (Kd.R_base ho0) hb)
             have n2_:=Am (Kd.R_elder' (bR HO_630001.out) (Kd.R_base ho0) hb)
             have n3_:=Am (Kd.R_elder' (bR HO636.out) (Kd.R_base ho0) hb)
             have n4_:=Am (Kd.R_elder' (bR HO644.out) (Kd.R_base ho0) hb)
             have n5_:=Am (Kd.R_lower (Kd.R_new' (Kd.R_new' (Kd.R_new' (Kd.R_new' (Kd.R_new' ho0 (Kd.R_lt (bR HO_614001.out))) (Kd.R_lt (bR HO_622001.out))) (Kd.R_lt (bR HO_630001.out))) (Kd.R_lt (bR HO636.out))) (Kd.R_lt (bR HO644.out))) (bU (by repeat (first|(with_reducible first|exact HB.out|apply bA|apply bN|apply bD|refine bS ?_ GE613.out|refine bS ?_ GE621.out|refine bS ?_ GE629.out|refine bS ?_ GE640.out|refine bS ?_ GE648.out|refine bS ?_ GE657.out)|exact HB.out))))
             have n6_:=Am (blk_below (bB BK613.out) hb)
             have n7_:=Am (blk_below (bB BK621.out) hb)
             have n8_:=Am (blk_below (bB BK629.out) hb)
             have n9_:=Am (blk_below (bB BK640.out) hb)
             have n10_:=Am (blk_below (bB BK648.out) hb)
             have n11_:=Am (blk_below (bB BK657.out) hb)
             have n12_:=Am (bT (by repeat (first|(with_reducible first|exact HB.out|apply bA|apply bN|apply bD|refine bS ?_ GE613.out|refine bS ?_ GE621.out|refine bS ?_ GE629.out|refine bS ?_ GE640.out|refine bS ?_ GE648.out|refine bS ?_ GE657.out)|exact HB.out)) hb)
             clear HO_614001
             clear HO_622001
             clear HO_630001
             clear HO636
             clear HO644
             clear BK613
             clear BK621
             clear BK629
             clear BK640
             clear BK648
             clear BK657
             clear HB
             have HO_614001:=n0_
             have HO_622001:=n1_
             have HO_630001:=n2_
             have HO636:=n3_
             have HO644:=n4_
             have HO653:=n5_
             have BK613:=n6_
             have BK621:=n7_
             have BK629:=n8_
             have BK640:=n9_
             have BK648:=n10_
             have BK657:=n11_
             have HB:=n12_
             clear n0_ n1_ n2_ n3_ n4_ n5_ n6_ n7_ n8_ n9_ n10_ n11_ n12_
             (try clear hb)
             (try clear hb2)
             (try clear hk)
             (try clear hi)
             (try clear ho0)
             refine hK.out _ _ ⟨bM BK613.out 0 rfl,bM BK613.out 1 rfl,bM BK613.out 2 rfl,bM BK613.out 3 rfl⟩ (fun hHeld=>?_)
             clear hK K
             refine norm_ (a':=?_) ?_ ?_
             rotate_left
             ·show Act.put _ (some 71) _ = _
              simp only [Act.put,lT,lZ,lS,i64_w,i32_w]
              rfl
             refine pure_ (i:=4) (N:=some 67) (v:=?_) (a':=?_) #[true,true,true,true,true,false,false,true,false,false] rfl rfl (any_of HT_.out (by kernel_rfl)) (fun _ _ _ h=>h) (Or.inl ⟨by rfl,?_⟩) ?_ ?_
             rotate_left
             ·intro w'
              go_simp
              with_reducible rfl
             rotate_left
             ·simp only [Act.put,lT,lZ,lS,i64_w,i32_w]
              rfl
             refine pure_ (i:=5) (N:=some 72) (v:=?_) (a':=?_) #[true,true,true,true,true,true,false,true,false,false] rfl rfl (any_of HT_.out (by kernel_rfl)) (fun _ _ _ h=>h) (Or.inl ⟨by rfl,?_⟩) ?_ ?_
             rotate_left
             ·intro w'
              go_simp
              with_reducible rfl
             rotate_left
             ·simp only [Act.put,lT,lZ,lS,i64_w,i32_w]
              rfl
             refine pure_ (i:=6) (N:=some 73) (v:=?_) (a':=?_) #[true,true,true,true,true,true,true,true,false,false] rfl rfl (any_of HT_.out (by kernel_rfl)) (fun _ _ _ h=>h) (Or.inl ⟨by rfl,?_⟩) ?_ ?_
             rotate_left
             ·intro w'
              go_simp
              with_reducible rfl
             rotate_left
             ·simp only [Act.put,lT,lZ,lS,i64_w,i32_w]
              rfl
             exact norm_ (by simp only [putAll,Act.put,lT,lZ,lS]) (hCont (v652,gb657) _ ⟨hHeld,(by (with_reducible repeat (first|apply rA|apply rN|apply rD));exact Kd.R_mono HO636.out (fun _ hk=>⟨hk.1.2.2.2,⟨hk.2,⟨hk.1.1,⟨hk.1.2.1,hk.1.2.2.1⟩⟩⟩⟩)),(by (with_reducible repeat (first|apply rA|apply rN|apply rD));exact Kd.R_mono HO644.out (fun _ hk=>⟨hk.1.2.2.2,⟨hk.2,⟨hk.1.1,⟨hk.1.2.1,hk.1.2.2.1⟩⟩⟩⟩)),(by (with_reducible repeat (first|apply rA|apply rN|apply rD));exact Kd.R_mono HO653.out (fun _ hk=>⟨hk.1.2,⟨hk.2,⟨hk.1.1.1.1.2,⟨hk.1.1.1.2,hk.1.1.2⟩⟩⟩⟩)),(by (with_reducible repeat (first|apply rA|apply rN|apply rD));exact Kd.R_mono HO_614001.out (fun _ hk=>⟨hk.1.2.2.1,⟨hk.1.2.2.2,⟨hk.2,⟨hk.1.1,hk.1.2.1⟩⟩⟩⟩)),(by (with_reducible repeat (first|apply rA|apply rN|apply rD));exact Kd.R_mono HO_622001.out (fun _ hk=>⟨hk.1.2.2.1,⟨hk.1.2.2.2,⟨hk.2,⟨hk.1.1,hk.1.2.1⟩⟩⟩⟩)),(by (with_reducible repeat (first|apply rA|apply rN|apply rD));exact Kd.R_mono HO_630001.out (fun _ hk=>⟨hk.1.2.2.1,⟨hk.1.2.2.2,⟨hk.2,⟨hk.1.1,hk.1.2.1⟩⟩⟩⟩)),(bB BK613.out),(bB BK621.out),(bB BK629.out),(bB BK640.out),(bB BK648.out),(bB BK657.out),GW657.out,GE657.out,NB613_657.out,NB657_613.out,NB621_657.out,NB657_621.out,NB629_657.out,NB657_629.out,NB640_657.out,NB657_640.out,NB648_657.out,NB657_648.out,(by repeat (first|(with_reducible first|exact HB.out|apply bA|apply bN|apply bD|refine bS ?_ GE613.out|refine bS ?_ GE621.out|refine bS ?_ GE629.out|refine bS ?_ GE640.out|refine bS ?_ GE648.out|refine bS ?_ GE657.out)|exact HB.out))⟩)
           ·skip
            refine box_step ?hg (N:=13) ?hd (cs:=#[.string (⟨#[]⟩:ByteArray), .slice none 0 0, .bool false, .string (⟨#[]⟩:ByteArray)]) (t:=25) ?hr ?_;(case hd=>rfl);(case hg=>rfl);(case hr=>(go_simp <;> rfl))
            intro gb657 hg w77 hbox hb
            have n0_:=bH HO_614001 hb
            have n1_:=bH HO_622001 hb
            have n2_:=bH HO_630001 hb
            have n3_:=bH HO636 hb
            have n4_:=bH HO644 hb
            have n5_:=Am (blk_below (bB BK613.out) hb)
            have n6_:=Am (blk_below (bB BK621.out) hb)
            have n7_:=Am (blk_below (bB BK629.out) hb)
            have n8_:=Am (blk_below (bB BK640.out) hb)
            have n9_:=Am (blk_below (bB BK648.out) hb)
            have n10_:=Am (bT (by repeat (first|(with_reducible first|exact HB.out|apply bA|apply bN|apply bD|refine bS ?_ GE613.out|refine bS ?_ GE621.out|refine bS ?_ GE629.out|refine bS ?_ GE640.out|refine bS ?_ GE648.out)|exact HB.out)) hb)
            have n11_:=Am (hbox)
            have n12_:=Am ((by rw [hg];exact (bU (by repeat (first|(with_reducible first|exact HB.out|apply bA|apply bN|apply bD|refine bS ?_ GE613.out|refine bS ?_ GE621.out|refine bS ?_ GE629.out|refine bS ?_ GE640.out|refine bS ?_ GE648.out)|exact HB.out))):w.heap.size ≤ gb657))
            have n13_:=Am ((by rw [hg];exact (bU (by repeat (first|(with_reducible first|exact HB.out|apply bA|apply bN|apply bD|refine bS ?_ GE613.out|refine bS ?_ GE621.out|refine bS ?_ GE629.out|refine bS ?_ GE640.out|refine bS ?_ GE648.out)|exact HB.out))):w.heap.size ≤ gb657))
            have n14_:=Am ((by rw [hg];exact Nat.ne_of_lt (blk_lt (bB BK613.out)):gb613 ≠ gb657))
            have n15_:=Am ((by rw [hg];exact Nat.ne_of_gt (blk_lt (bB BK613.out)):gb657 ≠ gb613))
            have n16_:=Am ((by rw [hg];exact Nat.ne_of_lt (blk_lt (bB BK621.out)):gb621 ≠ gb657))
            have n17_:=Am ((by rw [hg];exact Nat.ne_of_gt (blk_lt (bB BK621.out)):gb657 ≠ gb621))
            have n18_:=Am ((by rw [hg];exact Nat.ne_of_lt (blk_lt (bB BK629.out)):gb629 ≠ gb657))
            have n19_:=Am ((by rw [hg];exact Nat.ne_of_gt (blk_lt (bB BK629.out)):gb657 ≠ gb629))
            have n20_:=Am ((by rw [hg];exact Nat.ne_of_lt (blk_lt (bB BK640.out)):gb640 ≠ gb657))
            have n21_:=Am ((by rw [hg];exact Nat.ne_of_gt (blk_lt (bB BK640.out)):gb657 ≠ gb640))
            have n22_:=Am ((by rw [hg];exact Nat.ne_of_lt (blk_lt (bB BK648.out)):gb648 ≠ gb657))
            have n23_:=Am ((by rw [hg];exact Nat.ne_of_gt (blk_lt (bB BK648.out)):gb657 ≠ gb648))
            clear HO_614001
            clear HO_622001
            clear HO_630001
            clear HO636
            clear HO644
            clear BK613
            clear BK621
            clear BK629
            clear BK640
            clear BK648
            clear HB
            have HO_614001:=n0_
            have HO_622001:=n1_
            have HO_630001:=n2_
            have HO636:=n3_
            have HO644:=n4_
            have BK613:=n5_
            have BK621:=n6_
            have BK629:=n7_
            have BK640:=n8_
            have BK648:=n9_
            have HB:=n10_
            have BK657:=n11_
            have GW657:=n12_
            have GE657:=n13_
            have NB613_657:=n14_
            have NB657_613:=n15_
            have NB621_657:=n16_
            have NB657_621:=n17_
            have NB629_657:=n18_
            have NB657_629:=n19_
            have NB640_657:=n20_
            have NB657_640:=n21_
            have NB648_657:=n22_
            have NB657_648:=n23_
            clear n0_ n1_ n2_ n3_ n4_ n5_ n6_ n7_ n8_ n9_ n10_ n11_ n12_ n13_ n14_ n15_ n16_ n17_ n18_ n19_ n20_ n21_ n22_ n23_
            clear hb hbox hg
            refine hK.out _ _ ⟨bM BK613.out 0 rfl,bM BK613.out 1 rfl,bM BK613.out 2 rfl,bM BK613.out 3 rfl⟩ (fun hHeld=>?_)
            clear hK K
            refine norm_ (a':=?_) ?_ ?_
            rotate_left
            ·show Act.put _ (some 13) _ = _
             simp only [Act.put,lT,lZ,lS,i64_w,i32_w]
             rfl
            refine one_ (i:=2) (N:=some 70) #[true,true,true,false,false,false,false,true,false,false] rfl rfl (one_of HT_.out (by kernel_rfl)) (by decide) (fun K hK=>?_)
            refine goes_ Tryd.func16 (by kernel_rfl) rfl #[.agg #[.string t606, .slice Ao10 t607.length co10, .bool t610, .string t611]] (by rfl) rfl rfl (by (try simp only [List.map_toArray,List.map_cons,List.map_nil]);first|done|rfl|(simp only [List.length_drop,List.length_take];rfl)) ?_
            with_reducible refine (impl_AddrPath.calls kj5 t606 _ _ t607 t610 t611 t649 _ ?side1 ?side2 A46.out).mono ?_
            (case side1=>repeat (first|exact (Kd.R_reads' HO_614001.out).2.2|(with_reducible refine bC ?_)))
            (case side2=>exact (Kd.R_reads' HO_614001.out).2.1)
            rintro e w78 ⟨rfl,hb⟩
            refine ⟨_,rfl,?_⟩
            have n0_:=bH HO_614001 hb
            have n1_:=bH HO_622001 hb
            have n2_:=bH HO_630001 hb
            have n3_:=bH HO636 hb
            have n4_:=bH HO644 hb
            have n5_:=Am (blk_below (bB BK613.out) hb)
            have n6_:=Am (blk_below (bB BK621.out) hb)
            have n7_:=Am (blk_below (bB BK629.out) hb)
            have n8_:=Am (blk_below (bB BK640.out) hb)
            have n9_:=Am (blk_below (bB BK648.out) hb)
            have n10_:=Am (blk_below (bB BK657.out) hb)
            have n11_:=Am (bT (by repeat (first|(with_reducible first|exact HB.out|apply bA|apply bN|apply bD|refine bS ?_ GE613.out|refine bS ?_ GE621.out|refine bS ?_ GE629.out|refine bS ?_ GE640.out|refine bS ?_ GE648.out|refine bS ?_ GE657.out)|exact HB.out)) hb)
            clear HO_614001
            clear HO_622001
            clear HO_630001
            clear HO636
            clear HO644
            clear BK613
            clear BK621
            clear BK629
            clear BK640
            clear BK648
            clear BK657
            clear HB
            have HO_614001:=n0_
            have HO_622001:=n1_
            have HO_630001:=n2_
            have HO636:=n3_
            have HO644:=n4_
            have BK613:=n5_
            have BK621:=n6_
            have BK629:=n7_
            have BK640:=n8_
            have BK648:=n9_
            have BK657:=n10_
            have HB:=n11_
            clear n0_ n1_ n2_ n3_ n4_ n5_ n6_ n7_ n8_ n9_ n10_ n11_
            (try clear hb)
            (try clear hb2)
            (try clear hk)
            (try clear hi)
            refine hK.out _ _ ⟨bM BK613.out 0 rfl,bM BK613.out 1 rfl,bM BK613.out 2 rfl,bM BK613.out 3 rfl⟩ (fun hHeld=>?_)
            clear hK K
            refine norm_ (a':=?_) ?_ ?_
            rotate_left
            ·show Act.put _ (some 70) _ = _
             simp only [Act.put,lT,lZ,lS,i64_w,i32_w]
             rfl
            refine one_ (i:=3) (N:=some 71) #[true,true,true,true,false,false,false,true,false,false] rfl rfl (one_of HT_.out (by kernel_rfl)) (by decide) (fun K hK=>?_)
            refine goes_ Tryd.func13 (by kernel_rfl) rfl #[.agg #[.string t606, .slice Ao10 t607.length co10, .bool t610, .string t611], .string t649] (by rfl) rfl rfl (by (try simp only [List.map_toArray,List.map_cons,List.map_nil]);first|done|rfl|(simp only [List.length_drop,List.length_take];rfl)) ?_
            with_reducible refine (impl_AddrJoin.calls kj5 t606 _ _ t607 t610 t611 t649 t650 t651 t654 t655 true _ ?side1 ?side2 A47.out).mono ?_
            (case side1=>repeat (first|exact (Kd.R_reads' HO_614001.out).2.2|(with_reducible refine bC ?_)))
            (case side2=>exact (Kd.R_reads' HO_614001.out).2.1)
            rintro e w79 ⟨v652,rfl,ho0,hb⟩
            refine ⟨_,rfl,?_⟩
            have n0_:=Am (Kd.R_elder' (bR HO_614001.out) (Kd.R_base ho0) hb)
            have n1_:=Am (Kd.R_elder' (bR HO_622001.out) (Kd.R_base ho0) hb)
            have n2_:=Am (Kd.R_elder' (bR HO_630001.out) (Kd.R_base ho0) hb)
            have n3_:=Am (Kd.R_elder' (bR HO636.out) (Kd.R_base ho0) hb)
            have n4_:=Am (Kd.R_elder' (bR HO644.out) (Kd.R_base ho0) hb)
            have n5_:=Am (Kd.R_lower (Kd.R_new' (Kd.R_new' (Kd.R_new' (Kd.R_new' (Kd.R_new' ho0 (Kd.R_lt (bR HO_614001.out))) (Kd.R_lt (bR HO_622001.out))) (Kd.R_lt (bR HO_630001.out))) (Kd.R_lt (bR HO636.out))) (Kd.R_lt (bR HO644.out))) (bU (by repeat (first|(with_reducible first|exact HB.out|apply bA|apply bN|apply bD|refine bS ?_ GE613.out|refine bS ?_ GE621.out|refine bS ?_ GE629.out|refine bS ?_ GE640.out|refine bS ?_ GE648.out|refine bS ?_ GE657.out)|exact HB.out))))
            have n6_:=Am (blk_below (bB BK613.out) hb)
            have n7_:=Am (blk_below (bB BK621.out) hb)
            have n8_:=Am (blk_below (bB BK629.out) hb)
            have n9_:=Am (blk_below (bB BK640.out) hb)
            have n10_:=Am (blk_below (bB BK648.out) hb)
            have n11_:=Am (blk_below (bB BK657.out) hb)
            have n12_:=Am (bT (by repeat (first|(with_reducible first|exact HB.out|apply bA|apply bN|apply bD|refine bS ?_ GE613.out|refine bS ?_ GE621.out|refine bS ?_ GE629.out|refine bS ?_ GE640.out|refine bS ?_ GE648.out|refine bS ?_ GE657.out)|exact HB.out)) hb)
            clear HO_614001
            clear HO_622001
            clear HO_630001
            clear HO636
            clear HO644
            clear BK613
            clear BK621
            clear BK629
            clear BK640
            clear BK648
            clear BK657
            clear HB
            have HO_614001:=n0_
            have HO_622001:=n1_
            have HO_630001:=n2_
            have HO636:=n3_
            have HO644:=n4_
            have HO653:=n5_
            have BK613:=n6_
            have BK621:=n7_
            have BK629:=n8_
            have BK640:=n9_
            have BK648:=n10_
            have BK657:=n11_
            have HB:=n12_
            clear n0_ n1_ n2_ n3_ n4_ n5_ n6_ n7_ n8_ n9_ n10_ n11_ n12_
            (try clear hb)
            (try clear hb2)
            (try clear hk)
            (try clear hi)
            (try clear ho0)
            refine hK.out _ _ ⟨bM BK613.out 0 rfl,bM BK613.out 1 rfl,bM BK613.out 2 rfl,bM BK613.out 3 rfl⟩ (fun hHeld=>?_)
            clear hK K
            refine norm_ (a':=?_) ?_ ?_
            rotate_left
            ·show Act.put _ (some 71) _ = _
             simp only [Act.put,lT,lZ,lS,i64_w,i32_w]
             rfl
            refine pure_ (i:=4) (N:=some 67) (v:=?_) (a':=?_) #[true,true,true,true,true,false,false,true,false,false] rfl rfl (any_of HT_.out (by kernel_rfl)) (fun _ _ _ h=>h) (Or.inl ⟨by rfl,?_⟩) ?_ ?_
            rotate_left
            ·intro w'
             go_simp
             with_reducible rfl
            rotate_left
            ·simp only [Act.put,lT,lZ,lS,i64_w,i32_w]
             rfl
            refine pure_ (i:=5) (N:=some 72) (v:=?_) (a':=?_) #[true,true,true,true,true,true,false,true,false,false] rfl rfl (any_of HT_.out (by kernel_rfl)) (fun _ _ _ h=>h) (Or.inl ⟨by rfl,?_⟩) ?_ ?_
            rotate_left
            ·intro w'
             go_simp
             with_reducible rfl
            rotate_left
            ·simp only [Act.put,lT,lZ,lS,i64_w,i32_w]
             rfl
            refine pure_ (i:=6) (N:=some 73) (v:=?_) (a':=?_) #[true,true,true,true,true,true,true,true,false,false] rfl rfl (any_of HT_.out (by kernel_rfl)) (fun _ _ _ h=>h) (Or.inl ⟨by rfl,?_⟩) ?_ ?_
            rotate_left
            ·intro w'
             go_simp
             with_reducible rfl
            rotate_left
            ·simp only [Act.put,lT,lZ,lS,i64_w,i32_w]
             rfl
            exact norm_ (by simp only [putAll,Act.put,lT,lZ,lS]) (hCont (v652,gb657) _ ⟨hHeld,(by (with_reducible repeat (first|apply rA|apply rN|apply rD));exact Kd.R_mono HO636.out (fun _ hk=>⟨hk.1.2.2.2,⟨hk.2,⟨hk.1.1,⟨hk.1.2.1,hk.1.2.2.1⟩⟩⟩⟩)),(by (with_reducible repeat (first|apply rA|apply rN|apply rD));exact Kd.R_mono HO644.out (fun _ hk=>⟨hk.1.2.2.2,⟨hk.2,⟨hk.1.1,⟨hk.1.2.1,hk.1.2.2.1⟩⟩⟩⟩)),(by (with_reducible repeat (first|apply rA|apply rN|apply rD));exact Kd.R_mono HO653.out (fun _ hk=>⟨hk.1.2,⟨hk.2,⟨hk.1.1.1.1.2,⟨hk.1.1.1.2,hk.1.1.2⟩⟩⟩⟩)),(by (with_reducible repeat (first|apply rA|apply rN|apply rD));exact Kd.R_mono HO_614001.out (fun _ hk=>⟨hk.1.2.2.1,⟨hk.1.2.2.2,⟨hk.2,⟨hk.1.1,hk.1.2.1⟩⟩⟩⟩)),(by (with_reducible repeat (first|apply rA|apply rN|apply rD));exact Kd.R_mono HO_622001.out (fun _ hk=>⟨hk.1.2.2.1,⟨hk.1.2.2.2,⟨hk.2,⟨hk.1.1,hk.1.2.1⟩⟩⟩⟩)),(by (with_reducible repeat (first|apply rA|apply rN|apply rD));exact Kd.R_mono HO_630001.out (fun _ hk=>⟨hk.1.2.2.1,⟨hk.1.2.2.2,⟨hk.2,⟨hk.1.1,hk.1.2.1⟩⟩⟩⟩)),(bB BK613.out),(bB BK621.out),(bB BK629.out),(bB BK640.out),(bB BK648.out),(bB BK657.out),GW657.out,GE657.out,NB613_657.out,NB657_613.out,NB621_657.out,NB657_621.out,NB629_657.out,NB657_629.out,NB640_657.out,NB657_640.out,NB648_657.out,NB657_648.out,(by repeat (first|(with_reducible first|exact HB.out|apply bA|apply bN|apply bD|refine bS ?_ GE613.out|refine bS ?_ GE621.out|refine bS ?_ GE629.out|refine bS ?_ GE640.out|refine bS ?_ GE648.out|refine bS ?_ GE657.out)|exact HB.out))⟩)
          rintro ⟨v652,gb657⟩ w80 ⟨hS_,h0_,h1_,h2_,h3_,h4_,h5_,h6_,h7_,h8_,h9_,h10_,h11_,h12_,h13_,h14_,h15_,h16_,h17_,h18_,h19_,h20_,h21_,h22_,h23_,h24_⟩
          have n0_:Aside0 (Kd.R Kd.string 9 w80 w.heap.size (fun k_=>some k_ ≠ (.slice Ao74 t642.length co74:Value).ownBlock ∧ some k_ ≠ (v652:Value).ownBlock ∧ some k_ ≠ (.slice Ao10 t607.length co10:Value).ownBlock ∧ some k_ ≠ (.slice Ao15 t615.length co15:Value).ownBlock ∧ some k_ ≠ (.slice Ao22 t623.length co22:Value).ownBlock) (.slice Ao65 t634.length co65) t634):=⟨h0_⟩
          have n1_:Aside0 (Kd.R Kd.string 9 w80 w.heap.size (fun k_=>some k_ ≠ (.slice Ao65 t634.length co65:Value).ownBlock ∧ some k_ ≠ (v652:Value).ownBlock ∧ some k_ ≠ (.slice Ao10 t607.length co10:Value).ownBlock ∧ some k_ ≠ (.slice Ao15 t615.length co15:Value).ownBlock ∧ some k_ ≠ (.slice Ao22 t623.length co22:Value).ownBlock) (.slice Ao74 t642.length co74) t642):=⟨h1_⟩
          have n2_:Aside0 (Kd.R Kd.string 9 w80 w.heap.size (fun k_=>some k_ ≠ (.slice Ao65 t634.length co65:Value).ownBlock ∧ some k_ ≠ (.slice Ao74 t642.length co74:Value).ownBlock ∧ some k_ ≠ (.slice Ao10 t607.length co10:Value).ownBlock ∧ some k_ ≠ (.slice Ao15 t615.length co15:Value).ownBlock ∧ some k_ ≠ (.slice Ao22 t623.length co22:Value).ownBlock) v652 t651):=⟨h2_⟩
          have n3_:Aside0 (Kd.R Kd.string 9 w80 w.heap.size (fun k_=>some k_ ≠ (.slice Ao65 t634.length co65:Value).ownBlock ∧ some k_ ≠ (.slice Ao74 t642.length co74:Value).ownBlock ∧ some k_ ≠ (v652:Value).ownBlock ∧ some k_ ≠ (.slice Ao15 t615.length co15:Value).ownBlock ∧ some k_ ≠ (.slice Ao22 t623.length co22:Value).ownBlock) (.slice Ao10 t607.length co10) t607):=⟨h3_⟩
          have n4_:Aside0 (Kd.R Kd.string 9 w80 w.heap.size (fun k_=>some k_ ≠ (.slice Ao65 t634.length co65:Value).ownBlock ∧ some k_ ≠ (.slice Ao74 t642.length co74:Value).ownBlock ∧ some k_ ≠ (v652:Value).ownBlock ∧ some k_ ≠ (.slice Ao10 t607.length co10:Value).ownBlock ∧ some k_ ≠ (.slice Ao22 t623.length co22:Value).ownBlock) (.slice Ao15 t615.length co15) t615):=⟨h4_⟩
          have n5_:Aside0 (Kd.R Kd.string 9 w80 w.heap.size (fun k_=>some k_ ≠ (.slice Ao65 t634.length co65:Value).ownBlock ∧ some k_ ≠ (.slice Ao74 t642.length co74:Value).ownBlock ∧ some k_ ≠ (v652:Value).ownBlock ∧ some k_ ≠ (.slice Ao10 t607.length co10:Value).ownBlock ∧ some k_ ≠ (.slice Ao15 t615.length co15:Value).ownBlock) (.slice Ao22 t623.length co22) t623):=⟨h5_⟩
          have n6_:Aside0 (w80.heap[gb613]? = some (.cells #[.string t606, .slice Ao10 t607.length co10, .bool t610, .string t611] 25 (0,0))):=⟨h6_⟩
          have n7_:Aside0 (w80.heap[gb621]? = some (.cells #[.string t614, .slice Ao15 t615.length co15, .bool t618, .string t619] 25 (0,0))):=⟨h7_⟩
          have n8_:Aside0 (w80.heap[gb629]? = some (.cells #[.string t622, .slice Ao22 t623.length co22, .bool t626, .string t627] 25 (0,0))):=⟨h8_⟩
          have n9_:Aside0 (w80.heap[gb640]? = some (.cells #[.string t633, .slice Ao65 t634.length co65, .bool t637, .string t638] 25 (0,0))):=⟨h9_⟩
          have n10_:Aside0 (w80.heap[gb648]? = some (.cells #[.string t641, .slice Ao74 t642.length co74, .bool t645, .string t646] 25 (0,0))):=⟨h10_⟩
          have n11_:Aside0 (w80.heap[gb657]? = some (.cells #[.string (⟨#[]⟩:ByteArray), .slice none 0 0, .bool false, .string (⟨#[]⟩:ByteArray)] 25 (0,0))):=⟨h11_⟩
          have n12_:Aside0 (w.heap.size ≤ gb657):=⟨h12_⟩
          have n13_:Aside0 (w.heap.size ≤ gb657):=⟨h13_⟩
          have n14_:Aside0 (gb613 ≠ gb657):=⟨h14_⟩
          have n15_:Aside0 (gb657 ≠ gb613):=⟨h15_⟩
          have n16_:Aside0 (gb621 ≠ gb657):=⟨h16_⟩
          have n17_:Aside0 (gb657 ≠ gb621):=⟨h17_⟩
          have n18_:Aside0 (gb629 ≠ gb657):=⟨h18_⟩
          have n19_:Aside0 (gb657 ≠ gb629):=⟨h19_⟩
          have n20_:Aside0 (gb640 ≠ gb657):=⟨h20_⟩
          have n21_:Aside0 (gb657 ≠ gb640):=⟨h21_⟩
          have n22_:Aside0 (gb648 ≠ gb657):=⟨h22_⟩
          have n23_:Aside0 (gb657 ≠ gb648):=⟨h23_⟩
          have n24_:Aside0 (Below w.heap.size w w80):=⟨h24_⟩
          clear HO_614001
          clear HO_622001
          clear HO_630001
          clear HO636
          clear HO644
          clear BK613
          clear BK621
          clear BK629
          clear BK640
          clear BK648
          clear HB
          clear h0_ h1_ h2_ h3_ h4_ h5_ h6_ h7_ h8_ h9_ h10_ h11_ h12_ h13_ h14_ h15_ h16_ h17_ h18_ h19_ h20_ h21_ h22_ h23_ h24_
          have HO636:=n0_
          have HO644:=n1_
          have HO653:=n2_
          have HO_614001:=n3_
          have HO_622001:=n4_
          have HO_630001:=n5_
          have BK613:=n6_
          have BK621:=n7_
          have BK629:=n8_
          have BK640:=n9_
          have BK648:=n10_
          have BK657:=n11_
          have GW657:=n12_
          have GE657:=n13_
          have NB613_657:=n14_
          have NB657_613:=n15_
          have NB621_657:=n16_
          have NB657_621:=n17_
          have NB629_657:=n18_
          have NB657_629:=n19_
          have NB640_657:=n20_
          have NB657_640:=n21_
          have NB648_657:=n22_
          have NB657_648:=n23_
          have HB:=n24_
          clear n0_ n1_ n2_ n3_ n4_ n5_ n6_ n7_ n8_ n9_ n10_ n11_ n12_ n13_ n14_ n15_ n16_ n17_ n18_ n19_ n20_ n21_ n22_ n23_ n24_
          have hHeld:w80.cell? ⟨gb613,0,none⟩ = some (.string t606) ∧ w80.cell? ⟨gb613,1,none⟩ = some (.slice Ao10 t607.length co10) ∧ w80.cell? ⟨gb613,2,none⟩ = some (.bool t610) ∧ w80.cell? ⟨gb613,3,none⟩ = some (.string t611):=hS_
          obtain ⟨Ao82,co82,eo82⟩:=Kd.R_slice HO653.out
          (first|subst eo82|(injection eo82 with f1_ f2_ f3_;have f4_:=f1_.symm;have f5_:=f3_.symm;clear f1_ f2_ f3_;subst f4_;subst f5_))
          refine norm_ (a':=?_) ?_ ?_
          rotate_left
          ·simp only [putAll,Act.put,lT,lZ,lS]
           rfl
          refine one_ (i:=8) (N:=none) #[true,true,true,true,true,true,true,true,true,false] rfl rfl (one_of HT_.out (by kernel_rfl)) (by decide) (fun K hK=>?_)
          have hs81:w80.cell? ⟨gb657,0,none⟩ = some (.string (⟨#[]⟩:ByteArray)):=bM BK657.out 0 rfl
          have hfs81:=bZ BK657.out 0
          have hns81_0:=NB613_657.out
          have hns81_1:=NB621_657.out
          have hns81_2:=NB629_657.out
          have hns81_3:=NB640_657.out
          have hns81_4:=NB648_657.out
          have hms81_0:=NB657_613.out
          have hms81_1:=NB657_621.out
          have hms81_2:=NB657_629.out
          have hms81_3:=NB657_640.out
          have hms81_4:=NB657_648.out
          have hs83:w80.cell? ⟨gb657,1,none⟩ = some (.slice none 0 0):=bM BK657.out 1 rfl
          have hfs83:=bZ BK657.out 1
          have hns83_0:=NB613_657.out
          have hns83_1:=NB621_657.out
          have hns83_2:=NB629_657.out
          have hns83_3:=NB640_657.out
          have hns83_4:=NB648_657.out
          have hms83_0:=NB657_613.out
          have hms83_1:=NB657_621.out
          have hms83_2:=NB657_629.out
          have hms83_3:=NB657_640.out
          have hms83_4:=NB657_648.out
          have hs84:w80.cell? ⟨gb657,2,none⟩ = some (.bool false):=bM BK657.out 2 rfl
          have hfs84:=bZ BK657.out 2
          have hns84_0:=NB613_657.out
          have hns84_1:=NB621_657.out
          have hns84_2:=NB629_657.out
          have hns84_3:=NB640_657.out
          have hns84_4:=NB648_657.out
          have hms84_0:=NB657_613.out
          have hms84_1:=NB657_621.out
          have hms84_2:=NB657_629.out
          have hms84_3:=NB657_640.out
          have hms84_4:=NB657_648.out
          have hs85:w80.cell? ⟨gb657,3,none⟩ = some (.string (⟨#[]⟩:ByteArray)):=bM BK657.out 3 rfl
          have hfs85:=bZ BK657.out 3
          have hns85_0:=NB613_657.out
          have hns85_1:=NB621_657.out
          have hns85_2:=NB629_657.out
          have hns85_3:=NB640_657.out
          have hns85_4:=NB648_657.out
          have hms85_0:=NB657_613.out
          have hms85_1:=NB657_621.out
          have hms85_2:=NB657_629.out
          have hms85_3:=NB657_640.out
          have hms85_4:=NB657_648.out
          refine skip_ (w1:=?_) (by rfl) rfl ?_ ?_
          rotate_left
          ·go_simp
           rfl
          refine hK.out _ _ ⟨((cell_far (p:=⟨gb657,_,none⟩) NB613_657.out _).trans (((cell_far (p:=⟨gb657,_,none⟩) NB613_657.out _).trans (((cell_far (p:=⟨gb657,_,none⟩) NB613_657.out _).trans (((cell_far (p:=⟨gb657,_,none⟩) NB613_657.out _).trans (hHeld.1)))))))),((cell_far (p:=⟨gb657,_,none⟩) NB613_657.out _).trans (((cell_far (p:=⟨gb657,_,none⟩) NB613_657.out _).trans (((cell_far (p:=⟨gb657,_,none⟩) NB613_657.out _).trans (((cell_far (p:=⟨gb657,_,none⟩) NB613_657.out _).trans (hHeld.2.1)))))))),((cell_far (p:=⟨gb657,_,none⟩) NB613_657.out _).trans (((cell_far (p:=⟨gb657,_,none⟩) NB613_657.out _).trans (((cell_far (p:=⟨gb657,_,none⟩) NB613_657.out _).trans (((cell_far (p:=⟨gb657,_,none⟩) NB613_657.out _).trans (hHeld.2.2.1)))))))),((cell_far (p:=⟨gb657,_,none⟩) NB613_657.out _).trans (((cell_far (p:=⟨gb657,_,none⟩) NB613_657.out _).trans (((cell_far (p:=⟨gb657,_,none⟩) NB613_657.out _).trans (((cell_far (p:=⟨gb657,_,none⟩) NB613_657.out _).trans (hHeld.2.2.2))))))))⟩ (fun hHeld=>?_)
          clear hK K
          refine pure_ (i:=9) (N:=some 14) (v:=?_) (a':=?_) #[true,true,true,true,true,true,true,true,true,true] rfl rfl (any_of HT_.out (by kernel_rfl)) (fun _ _ _ h=>h) (Or.inl ⟨by rfl,?_⟩) ?_ ?_
          rotate_left
          ·intro w'
           go_simp
           with_reducible rfl
          rotate_left
          ·simp only [Act.put,lT,lZ,lS,i64_w,i32_w]
           rfl
          refine done_ (done_of HT_.out (by kernel_rfl)) ?_
          have hnb86:=NB640_657.out
          have hnc86:=NB657_640.out
          obtain ⟨hcz87_0,hcz87_1,hcz87_2,hcz87_3,hfz87_0,hfz87_1,hfz87_2,hfz87_3⟩:=bX BK640.out







          have hnb88:=NB613_657.out
          have hnc88:=NB657_613.out
          obtain ⟨hcz89_0,hcz89_1,hcz89_2,hcz89_3,hfz89_0,hfz89_1,hfz89_2,hfz89_3⟩:=bX BK613.out







          try go_wp2_with (first|(go_at_call 14;(with_reducible refine (laws_lpAddr.calls kj5 t633 _ _ t634 t637 t638 t606 _ _ t607 t610 t611 true _ ?side1 ?side2 ?side3 ?side4 A49.out).mono ?_);(case side1=>refine (Kd.R_reads' (e:=9) (base:=w.heap.size) (ok:=fun k_=>(some k_ ≠ (.slice Ao74 t642.length co74:Value).ownBlock ∧ (some k_ ≠ (.slice Ao82 t651.length co82:Value).ownBlock ∧ (some k_ ≠ (.slice Ao10 t607.length co10:Value).ownBlock ∧ (some k_ ≠ (.slice Ao15 t615.length co15:Value).ownBlock ∧ some k_ ≠ (.slice Ao22 t623.length co22:Value).ownBlock))))) (n:=t634.length) (c:=co65) ?_).2.2;exact (by (with_reducible repeat (first|apply rA|apply rN|apply rD));exact (bQ HO636.out BK657.out (by decide) _ _ _ _)));(case side2=>exact (Kd.R_reads' HO636.out).2.1);(case side3=>refine (Kd.R_reads' (e:=9) (base:=w.heap.size) (ok:=fun k_=>(some k_ ≠ (.slice Ao65 t634.length co65:Value).ownBlock ∧ (some k_ ≠ (.slice Ao74 t642.length co74:Value).ownBlock ∧ (some k_ ≠ (.slice Ao82 t651.length co82:Value).ownBlock ∧ (some k_ ≠ (.slice Ao15 t615.length co15:Value).ownBlock ∧ some k_ ≠ (.slice Ao22 t623.length co22:Value).ownBlock))))) (n:=t607.length) (c:=co10) ?_).2.2;exact (by (with_reducible repeat (first|apply rA|apply rN|apply rD));exact (bQ HO_614001.out BK657.out (by decide) _ _ _ _)));(case side4=>exact (Kd.R_reads' HO_614001.out).2.1);rintro e w90 ⟨rfl,hb⟩;have n0_:=Am (Kd.R_below (by (with_reducible repeat (first|apply rA|apply rN|apply rD));exact (bQ HO_614001.out BK657.out (by decide) _ _ _ _)) hb);have n1_:=Am (Kd.R_below (by (with_reducible repeat (first|apply rA|apply rN|apply rD));exact (bQ HO_622001.out BK657.out (by decide) _ _ _ _)) hb);have n2_:=Am (Kd.R_below (by (with_reducible repeat (first|apply rA|apply rN|apply rD));exact (bQ HO_630001.out BK657.out (by decide) _ _ _ _)) hb);have n3_:=Am (Kd.R_below (by (with_reducible repeat (first|apply rA|apply rN|apply rD));exact (bQ HO636.out BK657.out (by decide) _ _ _ _)) hb);have n4_:=Am (Kd.R_below (by (with_reducible repeat (first|apply rA|apply rN|apply rD));exact (bQ HO644.out BK657.out (by decide) _ _ _ _)) hb);have n5_:=Am (Kd.R_below (by (with_reducible repeat (first|apply rA|apply rN|apply rD));exact (bQ HO653.out BK657.out (by decide) _ _ _ _)) hb);have n6_:=Am (blk_below (g:=gb613) (o:=.cells #[.string t606, .slice Ao10 t607.length co10, .bool t610, .string t611] 25 (0,0)) (by refine bB ?_;refine bF ?_ NB613_657.out;refine bB ?_;exact BK613.out) hb);have n7_:=Am (blk_below (g:=gb621) (o:=.cells #[.string t614, .slice Ao15 t615.length co15, .bool t618, .string t619] 25 (0,0)) (by refine bB ?_;refine bF ?_ NB621_657.out;refine bB ?_;exact BK621.out) hb);have n8_:=Am (blk_below (g:=gb629) (o:=.cells #[.string t622, .slice Ao22 t623.length co22, .bool t626, .string t627] 25 (0,0)) (by refine bB ?_;refine bF ?_ NB629_657.out;refine bB ?_;exact BK629.out) hb);have n9_:=Am (blk_below (g:=gb640) (o:=.cells #[.string t633, .slice Ao65 t634.length co65, .bool t637, .string t638] 25 (0,0)) (by refine bB ?_;refine bF ?_ NB640_657.out;refine bB ?_;exact BK640.out) hb);have n10_:=Am (blk_below (g:=gb648) (o:=.cells #[.string t641, .slice Ao74 t642.length co74, .bool t645, .string t646] 25 (0,0)) (by refine bB ?_;refine bF ?_ NB648_657.out;refine bB ?_;exact BK648.out) hb);have n11_:=Am (blk_below (g:=gb657) (o:=.cells #[.string t650, .slice Ao82 t651.length co82, .bool t654, .string t655] 25 (0,0)) (by refine bB ?_;apply bP;refine bB ?_;exact BK657.out) hb);have n12_:=Am (bT (by repeat (first|(with_reducible first|exact HB.out|apply bA|apply bN|apply bD|refine bS ?_ GE613.out|refine bS ?_ GE621.out|refine bS ?_ GE629.out|refine bS ?_ GE640.out|refine bS ?_ GE648.out|refine bS ?_ GE657.out)|exact HB.out)) hb);clear HO_614001 HO_622001 HO_630001 HO636 HO644 HO653 BK613 BK621 BK629 BK640 BK648 BK657 HB;have HO_614001:=n0_;have HO_622001:=n1_;have HO_630001:=n2_;have HO636:=n3_;have HO644:=n4_;have HO653:=n5_;have BK613:=n6_;have BK621:=n7_;have BK629:=n8_;have BK640:=n9_;have BK648:=n10_;have BK657:=n11_;have HB:=n12_;clear n0_ n1_ n2_ n3_ n4_ n5_ n6_ n7_ n8_ n9_ n10_ n11_ n12_;(try clear hb);have hnb91:=NB648_657.out;have hnc91:=NB657_648.out;obtain ⟨hcz92_0,hcz92_1,hcz92_2,hcz92_3,hfz92_0,hfz92_1,hfz92_2,hfz92_3⟩:=bX BK648.out;obtain ⟨hcz93_0,hcz93_1,hcz93_2,hcz93_3,hfz93_0,hfz93_1,hfz93_2,hfz93_3⟩:=bX BK613.out)|(go_at_call 14;(with_reducible refine (laws_lpAddr.calls kj5 t641 _ _ t642 t645 t646 t606 _ _ t607 t610 t611 true _ ?side1 ?side2 ?side3 ?side4 A52.out).mono ?_);(case side1=>repeat (first|exact (Kd.R_reads' HO644.out).2.2|(with_reducible refine bC ?_)));(case side2=>exact (Kd.R_reads' HO644.out).2.1);(case side3=>repeat (first|exact (Kd.R_reads' HO_614001.out).2.2|(with_reducible refine bC ?_)));(case side4=>exact (Kd.R_reads' HO_614001.out).2.1);rintro e w94 ⟨rfl,hb⟩;have n0_:=bH HO_614001 hb;have n1_:=bH HO_622001 hb;have n2_:=bH HO_630001 hb;have n3_:=bH HO636 hb;have n4_:=bH HO644 hb;have n5_:=bH HO653 hb;have n6_:=Am (blk_below (bB BK613.out) hb);have n7_:=Am (blk_below (bB BK621.out) hb);have n8_:=Am (blk_below (bB BK629.out) hb);have n9_:=Am (blk_below (bB BK640.out) hb);have n10_:=Am (blk_below (bB BK648.out) hb);have n11_:=Am (blk_below (bB BK657.out) hb);have n12_:=Am (bT (by repeat (first|(with_reducible first|exact HB.out|apply bA|apply bN|apply bD|refine bS ?_ GE613.out|refine bS ?_ GE621.out|refine bS ?_ GE629.out|refine bS ?_ GE640.out|refine bS ?_ GE648.out|refine bS ?_ GE657.out)|exact HB.out)) hb);clear HO_614001 HO_622001 HO_630001 HO636 HO644 HO653 BK613 BK621 BK629 BK640 BK648 BK657 HB;have HO_614001:=n0_;have HO_622001:=n1_;have HO_630001:=n2_;have HO636:=n3_;have HO644:=n4_;have HO653:=n5_;have BK613:=n6_;have BK621:=n7_;have BK629:=n8_;have BK640:=n9_;have BK648:=n10_;have BK657:=n11_;have HB:=n12_;clear n0_ n1_ n2_ n3_ n4_ n5_ n6_ n7_ n8_ n9_ n10_ n11_ n12_;(try clear hb);have hnb95:=NB657_621.out;have hnc95:=NB621_657.out;have hnb96:=NB657_629.out;have hnc96:=NB629_657.out;obtain ⟨hcz97_0,hcz97_1,hcz97_2,hcz97_3,hfz97_0,hfz97_1,hfz97_2,hfz97_3⟩:=bX BK657.out;obtain ⟨hcz98_0,hcz98_1,hcz98_2,hcz98_3,hfz98_0,hfz98_1,hfz98_2,hfz98_3⟩:=bX BK613.out)|(go_at_call 14;(with_reducible refine (laws_lpAddr.calls kj5 t650 _ _ t651 t654 t655 t606 _ _ t607 t610 t611 t660 _ ?side1 ?side2 ?side3 ?side4 A55.out).mono ?_);(case side1=>repeat (first|exact (Kd.R_reads' HO653.out).2.2|(with_reducible refine bC ?_)));(case side2=>exact (Kd.R_reads' HO653.out).2.1);(case side3=>repeat (first|exact (Kd.R_reads' HO_614001.out).2.2|(with_reducible refine bC ?_)));(case side4=>exact (Kd.R_reads' HO_614001.out).2.1);rintro e w99 ⟨rfl,hb⟩;have n0_:=bH HO_614001 hb;have n1_:=bH HO_622001 hb;have n2_:=bH HO_630001 hb;have n3_:=bH HO636 hb;have n4_:=bH HO644 hb;have n5_:=bH HO653 hb;have n6_:=Am (blk_below (bB BK613.out) hb);have n7_:=Am (blk_below (bB BK621.out) hb);have n8_:=Am (blk_below (bB BK629.out) hb);have n9_:=Am (blk_below (bB BK640.out) hb);have n10_:=Am (blk_below (bB BK648.out) hb);have n11_:=Am (blk_below (bB BK657.out) hb);have n12_:=Am (bT (by repeat (first|(with_reducible first|exact HB.out|apply bA|apply bN|apply bD|refine bS ?_ GE613.out|refine bS ?_ GE621.out|refine bS ?_ GE629.out|refine bS ?_ GE640.out|refine bS ?_ GE648.out|refine bS ?_ GE657.out)|exact HB.out)) hb);clear HO_614001 HO_622001 HO_630001 HO636 HO644 HO653 BK613 BK621 BK629 BK640 BK648 BK657 HB;have HO_614001:=n0_;have HO_622001:=n1_;have HO_630001:=n2_;have HO636:=n3_;have HO644:=n4_;have HO653:=n5_;have BK613:=n6_;have BK621:=n7_;have BK629:=n8_;have BK640:=n9_;have BK648:=n10_;have BK657:=n11_;have HB:=n12_;clear n0_ n1_ n2_ n3_ n4_ n5_ n6_ n7_ n8_ n9_ n10_ n11_ n12_;(try clear hb)))
          go_ret
          exact ⟨by first|rfl|(simp <;> rfl)|(simp [*] <;> rfl),by repeat (first|(with_reducible first|exact HB.out|apply bA|apply bN|apply bD|refine bS ?_ GE613.out|refine bS ?_ GE621.out|refine bS ?_ GE629.out|refine bS ?_ GE640.out|refine bS ?_ GE648.out|refine bS ?_ GE657.out)|exact HB.out)⟩
         ·replace c54:=Bool.eq_false_iff.mpr c54
          subst c54
          have H1:(none) = some r:=by rw [if_neg (show ¬ (false = true) by decide)] at H;exact H
          clear H
          have H:=H1
          clear H1
          exact absurd H (by simp)
        ·replace c53:=Bool.eq_false_iff.mpr c53
         subst c53
         have H1:(none) = some r:=by rw [if_neg (show ¬ (false = true) by decide)] at H;exact H
         clear H
         have H:=H1
         clear H1
         exact absurd H (by simp)
       ·replace c51:=Bool.eq_false_iff.mpr c51
        subst c51
        have H1:(none) = some r:=by rw [if_neg (show ¬ (false = true) by decide)] at H;exact H
        clear H
        have H:=H1
        clear H1
        exact absurd H (by simp)
      ·replace c50:=Bool.eq_false_iff.mpr c50
       subst c50
       have H1:(none) = some r:=by rw [if_neg (show ¬ (false = true) by decide)] at H;exact H
       clear H
       have H:=H1
       clear H1
       exact absurd H (by simp)
     ·replace c48:=Bool.eq_false_iff.mpr c48
      subst c48
      have H1:(none) = some r:=by rw [if_neg (show ¬ (false = true) by decide)] at H;exact H
      clear H
      have H:=H1
      clear H1
      exact absurd H (by simp)

def laws_FnJoinSelf.Pure:Prop:=∀ (l0:List Int),l0.length ≤ maxLen → l0.length * 1 ≤ 140737488351232 → (∀ x ∈ l0,(Lit.int .u8 x).wf = true) → ∃ k,laws_FnJoinSelf.f k l0 = some true
end Go.Proofs.YtbnnamjaljohiaaDoor.P
