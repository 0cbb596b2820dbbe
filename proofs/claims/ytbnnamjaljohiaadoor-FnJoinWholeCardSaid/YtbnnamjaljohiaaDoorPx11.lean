-- Written by a program of this session (patch_print.py over the kit's print; given texts in wip/given).
-- Cut down by a program of this session (wip/tools/prune.py) to what its claim can name.
import Derived.Test.YtbnnamjaljohiaaDoorSq
import Derived.Test.YtbnnamjaljohiaaDoorPx0
import Derived.Test.YtbnnamjaljohiaaDoorPx1
import Derived.Test.YtbnnamjaljohiaaDoorPx2
import Derived.Test.YtbnnamjaljohiaaDoorPx4
import Derived.Test.YtbnnamjaljohiaaDoorPx5
import Derived.Test.YtbnnamjaljohiaaDoorPx7
namespace Go.Proofs.YtbnnamjaljohiaaDoor.P
open Go.RowKit Go.Proofs.YtbnnamjaljohiaaDoorW.PrintWords Go.Proofs.YtbnnamjaljohiaaDoorW.PrintLast Go.Proofs.YtbnnamjaljohiaaDoorW.PrintMore
attribute [local go_sem] max2_int min2_int max_two min_two max_three min_three max_four min_four   -- for this text's walks alone
set_option linter.unusedVariables false
set_option linter.unusedSimpArgs false
set_option maxHeartbeats 8000000
set_option maxRecDepth 100000

def spec_DrawAddrText.f (k:Nat) (l0:List Int):Option (ByteArray × List ByteArray × Bool × ByteArray):=(spec_l6Open.f l0).bind fun bt724=>((spec_l71Struct.f k bt724.1 bt724.2).bind fun bt727=>(some (bt727.1,bt727.2.1,bt727.2.2.1,bt727.2.2.2.1)))
theorem spec_DrawAddrText.mono:∀ a0 k,LeO (spec_DrawAddrText.f k a0) (spec_DrawAddrText.f (k + 1) a0):=by
 intro a0 k
 unfold spec_DrawAddrText.f
 repeat' first
   | (with_reducible apply spec_l71Struct.mono)
   | (with_reducible exact LeO.refl _)
   | (with_reducible exact LeO.none _)
   | (with_reducible refine LeO.ite ?_ ?_)
   | (with_reducible refine LeO.bind ?_ (fun _=>?_))




theorem spec_DrawAddrText.calls (k:Nat) (A0:Option Addr) (c0:Nat) (l0:List Int) (r1:ByteArray) (r2:List ByteArray) (r3:Bool) (r4:ByteArray) (w:World) (hr0:Kd.C (Kd.int .u8) w A0 l0.length l0) (hc0:l0.length ≤ c0) (h:spec_DrawAddrText.f k l0 = some (r1,r2,r3,r4)) :
  Calls Tryd.prog 17 #[.slice A0 l0.length c0] w fun e w'=>∃ v1_:Value,e = .returned (.agg #[.string r1,v1_, .bool r3, .string r4]) ∧ Kd.R Kd.string 9 w' w.heap.size (fun _=>True) v1_ r2 ∧ Below w.heap.size w w':=by
 have hu25:=Tryd.underlying25
 have HR0:=Am hr0
 have HC0:=Am hc0
 clear hr0 hc0
 have HB:=Am (Below.refl w.heap.size w)
 have H:((spec_l6Open.f l0).bind fun bt724=>((spec_l71Struct.f k bt724.1 bt724.2).bind fun bt727=>(some (bt727.1,bt727.2.1,bt727.2.2.1,bt727.2.2.2.1)))) = some (r1,r2,r3,r4):=h
 clear h
 replace H:=bI H
 obtain ⟨⟨t724,t725⟩,A20,H⟩:=H
 replace H:((spec_l71Struct.f k t724 t725).bind fun bt727=>(some (bt727.1,bt727.2.1,bt727.2.2.1,bt727.2.2.2.1))) = some (r1,r2,r3,r4):=H
 have A2:=Am A20
 clear A20
 replace H:=bI H
 obtain ⟨⟨t727,t728,t731,t732,t733⟩,A30,H⟩:=H
 replace H:(some (t727,t728,t731,t732)) = some (r1,r2,r3,r4):=H
 have A3:=Am A30
 clear A30
 simp only [Option.some.injEq,Prod.mk.injEq] at H
 obtain ⟨rfl,rfl,rfl,rfl⟩:=H
 go_enter Tryd.func17,Tryd.ntmps17
 go_wp2_with (first|((with_reducible refine gate_dst (N:=2) rfl ?_);refine box_event ?hg (N:=2) ?hd (cs:=#[.string (⟨#[]⟩:ByteArray), .slice none 0 0, .bool false, .string (⟨#[]⟩:ByteArray)]) (t:=25) ?hr ?_;(case hd=>rfl);(case hg=>rfl);(case hr=>(go_simp <;> rfl));intro gb723 hg w4 hbox hb;have n0_:=Am (bT (by repeat (first|(with_reducible first|exact HB.out|apply bA|apply bN|apply bD)|exact HB.out)) hb);have n1_:=Am (hbox);have n2_:=Am ((by rw [hg];exact (bU (by repeat (first|(with_reducible first|exact HB.out|apply bA|apply bN|apply bD)|exact HB.out))):w.heap.size ≤ gb723));have n3_:=n2_;clear HB;have HB:=n0_;have BK723:=n1_;have GW723:=n2_;have GE723:=n3_;clear n0_ n1_ n2_ n3_ hb hbox hg)|((with_reducible refine gate_callee (f:=29) rfl ?_);refine goesL_ (some 4) rfl rfl Tryd.func29 (by kernel_rfl) rfl #[.slice A0 l0.length c0] rfl (aE1 rfl) ?_;(with_reducible refine (spec_l6Open.calls _ _ l0 t724 t725 w _ ?side1 ?side2 ?side3 A2.out).mono ?_);(case side1=>repeat (first|(with_reducible first|exact HB.out|apply bA|apply bN|apply bD|refine bS ?_ GE723.out)|exact HB.out));(case side2=>exact HR0.out);(case side3=>exact HC0.out);rintro e w5 ⟨g726,rfl,hi,hb,hb2⟩;refine ⟨_,rfl,?_⟩;have n0_:=Am (blk_below (bB BK723.out) hb2);have n1_:=Am (hb);have n2_:=Am (hi);have n3_:=Am (IsS60.ne_blk hi (blk_below (bB BK723.out) hb2) (by decide));have n4_:=Am (Ne.symm (IsS60.ne_blk hi (blk_below (bB BK723.out) hb2) (by decide)));clear BK723 HB;have BK723:=n0_;have HB:=n1_;have HI726:=n2_;have NB726_723:=n3_;have NB723_726:=n4_;clear n0_ n1_ n2_ n3_ n4_;(try clear hb hb2 hi))|((with_reducible refine gate_callee (f:=30) rfl ?_);refine goesL_ (some 5) rfl rfl Tryd.func30 (by kernel_rfl) rfl #[.pointer (some ⟨g726,0,none⟩)] rfl (aE1 rfl) ?_;(with_reducible refine (spec_l71Struct.calls k g726 t724 t725 t727 t728 t731 t732 t733 w _ ?side1 ?side2 A3.out).mono ?_);(case side1=>repeat (first|(with_reducible first|exact HI726.out|apply IsS60.alloc|apply IsS60.drewN|apply IsS60.drew|apply IsS60.set_1|refine IsS60.far ?_ NB726_723.out _)|exact HI726.out));(case side2=>repeat (first|(with_reducible first|exact HB.out|apply bA|apply bN|apply bD|refine bS ?_ (IsS60.ge HI726.out)|refine bS ?_ GE723.out)|exact HB.out));rintro e w6 ⟨v729,rfl,ho0,hi,hb,hk⟩;refine ⟨_,rfl,?_⟩;have n0_:=Am (KeepBut.blk hk (bB BK723.out) NB723_726.out (by simp));have n1_:=Am (Kd.R_lower ho0 (bU (by repeat (first|(with_reducible first|exact HB.out|apply bA|apply bN|apply bD|refine bS ?_ (IsS60.ge HI726.out)|refine bS ?_ GE723.out)|exact HB.out))));have n2_:=Am (hb);have n3_:=Am (hi);clear BK723 HB HI726;have BK723:=n0_;have HO730:=n1_;have HB:=n2_;have HI726:=n3_;clear n0_ n1_ n2_ n3_;(try clear hb hk hi);(try clear ho0);have hnb7:=NB723_726.out;have hnc7:=NB726_723.out;obtain ⟨hcz8_0,hcz8_1,hcz8_2,hcz8_3,hfz8_0,hfz8_1,hfz8_2,hfz8_3⟩:=bX BK723.out;obtain ⟨Ao9,co9,eo9⟩:=Kd.R_slice HO730.out;subst eo9))
 refine bodyPost_ret (results_cell_row rfl _ _ gb723 25 #[.string t727, .slice Ao9 t728.length co9, .bool t731, .string t732] (0,0) _ rfl (by refine bB ?_;apply bP;refine bB ?_;exact BK723.out) Tryd.underlying25 rfl (by kernel_rfl)) rfl ?_
 exact ⟨_,by first|rfl|(simp <;> rfl)|(simp [*] <;> rfl),by (with_reducible repeat (first|apply rA|apply rN|apply rD));exact Kd.R_mono (Kd.R_far (p:=⟨gb723,3,none⟩) (Kd.R_far (p:=⟨gb723,2,none⟩) (Kd.R_far (p:=⟨gb723,1,none⟩) (Kd.R_far (p:=⟨gb723,0,none⟩) (Kd.R_types HO730.out BK723.out (by decide)) (fun _ hk=>hk.2) (.string t727)) (fun _ hk=>hk.2) (.slice Ao9 t728.length co9)) (fun _ hk=>hk.2) (.bool t731)) (fun _ hk=>hk.2) (.string t732)) (fun _ hk=>trivial),by repeat (first|(with_reducible first|exact HB.out|apply bA|apply bN|apply bD|refine bS ?_ (IsS60.ge HI726.out)|refine bS ?_ GE723.out)|exact HB.out)⟩

def impl_AddrText.f (k:Nat) (a0_0:ByteArray) (l0_1:List ByteArray) (a0_2:Bool) (a0_3:ByteArray):Option (ByteArray):=(impl_AddrOk.f k a0_0 l0_1 a0_2 a0_3).bind fun t735=>(if t735 = true then ((impl_writeAddr.f a0_0 l0_1 a0_2 a0_3).bind fun t736=>(some t736)) else (some (⟨#[]⟩:ByteArray)))
theorem impl_AddrText.mono:∀ a0 a1 a2 a3 k,LeO (impl_AddrText.f k a0 a1 a2 a3) (impl_AddrText.f (k + 1) a0 a1 a2 a3):=by
 intro a0 a1 a2 a3 k
 unfold impl_AddrText.f
 repeat' first
   | (with_reducible apply impl_AddrOk.mono)
   | (with_reducible exact LeO.refl _)
   | (with_reducible exact LeO.none _)
   | (with_reducible refine LeO.ite ?_ ?_)
   | (with_reducible refine LeO.bind ?_ (fun _=>?_))




theorem impl_AddrText.calls (k:Nat) (a0_0:ByteArray) (A0_1:Option Addr) (c0_1:Nat) (l0_1:List ByteArray) (a0_2:Bool) (a0_3:ByteArray) (r:ByteArray) (w:World) (hr0_1:Kd.C Kd.string w A0_1 l0_1.length l0_1) (hc0_1:l0_1.length ≤ c0_1) (h:impl_AddrText.f k a0_0 l0_1 a0_2 a0_3 = some r) :
  Calls Tryd.prog 18 #[.agg #[.string a0_0, .slice A0_1 l0_1.length c0_1, .bool a0_2, .string a0_3]] w fun e w'=>e = .returned (.string r) ∧ Below w.heap.size w w':=by
 have hu25:=Tryd.underlying25
 have HR0_1:=Am hr0_1
 have HC0_1:=Am hc0_1
 clear hr0_1 hc0_1
 have HB:=Am (Below.refl w.heap.size w)
 have H:((impl_AddrOk.f k a0_0 l0_1 a0_2 a0_3).bind fun t735=>(if t735 = true then ((impl_writeAddr.f a0_0 l0_1 a0_2 a0_3).bind fun t736=>(some t736)) else (some (⟨#[]⟩:ByteArray)))) = some r:=h
 clear h
 replace H:=bI H
 obtain ⟨t735,A20,H⟩:=H
 replace H:(if t735 = true then ((impl_writeAddr.f a0_0 l0_1 a0_2 a0_3).bind fun t736=>(some t736)) else (some (⟨#[]⟩:ByteArray))) = some r:=H
 have A2:=Am A20
 clear A20
 by_cases c3:t735 = true
 ·subst c3
  have H1:((impl_writeAddr.f a0_0 l0_1 a0_2 a0_3).bind fun t736=>(some t736)) = some r:=by rw [if_pos rfl] at H;exact H
  clear H
  have H:=H1
  clear H1
  replace H:=bI H
  obtain ⟨t736,A40,H⟩:=H
  replace H:(some t736) = some r:=H
  have A4:=Am A40
  clear A40
  obtain rfl:=Option.some.inj H
  go_enter Tryd.func18,Tryd.ntmps18
  go_wp2_with (first|((with_reducible refine gate_dst (N:=1) rfl ?_);refine box_event ?hg (N:=1) ?hd (cs:=#[.string a0_0, .slice A0_1 l0_1.length c0_1, .bool a0_2, .string a0_3]) (t:=25) ?hr ?_;(case hd=>rfl);(case hg=>rfl);(case hr=>(go_simp <;> rfl));intro gb734 hg w5 hbox hb;have n0_:=Am (bT (by repeat (first|(with_reducible first|exact HB.out|apply bA|apply bN|apply bD)|exact HB.out)) hb);have n1_:=Am (hbox);have n2_:=Am ((by rw [hg];exact (bU (by repeat (first|(with_reducible first|exact HB.out|apply bA|apply bN|apply bD)|exact HB.out))):w.heap.size ≤ gb734));have n3_:=n2_;clear HB;have HB:=n0_;have BK734:=n1_;have GW734:=n2_;have GE734:=n3_;clear n0_ n1_ n2_ n3_ hb hbox hg;obtain ⟨hcz6_0,hcz6_1,hcz6_2,hcz6_3,hfz6_0,hfz6_1,hfz6_2,hfz6_3⟩:=bX BK734.out)|((with_reducible refine gate_callee (f:=28) rfl ?_);refine goesL_ (some 4) rfl rfl Tryd.func28 (by kernel_rfl) rfl #[.agg #[.string a0_0, .slice A0_1 l0_1.length c0_1, .bool a0_2, .string a0_3]] rfl (aE1 rfl) ?_;(with_reducible refine (impl_AddrOk.calls k a0_0 _ _ l0_1 a0_2 a0_3 true _ ?side1 ?side2 A2.out).mono ?_);(case side1=>repeat (first|exact (Kd.C_below HR0_1.out HB.out)|(with_reducible refine bC ?_)));(case side2=>exact HC0_1.out);rintro e w7 ⟨rfl,hb⟩;refine ⟨_,rfl,?_⟩;have n0_:=Am (blk_below (bB BK734.out) hb);have n1_:=Am (bT (by repeat (first|(with_reducible first|exact HB.out|apply bA|apply bN|apply bD|refine bS ?_ GE734.out)|exact HB.out)) hb);clear BK734 HB;have BK734:=n0_;have HB:=n1_;clear n0_ n1_;(try clear hb);obtain ⟨hcz8_0,hcz8_1,hcz8_2,hcz8_3,hfz8_0,hfz8_1,hfz8_2,hfz8_3⟩:=bX BK734.out)|((with_reducible refine gate_callee (f:=46) rfl ?_);refine goesL_ (some 7) rfl rfl Tryd.func46 (by kernel_rfl) rfl #[.agg #[.string a0_0, .slice A0_1 l0_1.length c0_1, .bool a0_2, .string a0_3]] rfl (aE1 rfl) ?_;(with_reducible refine (impl_writeAddr.calls a0_0 _ _ l0_1 a0_2 a0_3 t736 _ ?side1 ?side2 A4.out).mono ?_);(case side1=>repeat (first|exact (Kd.C_below HR0_1.out HB.out)|(with_reducible refine bC ?_)));(case side2=>exact HC0_1.out);rintro e w9 ⟨rfl,hb⟩;refine ⟨_,rfl,?_⟩;have n0_:=Am (blk_below (bB BK734.out) hb);have n1_:=Am (bT (by repeat (first|(with_reducible first|exact HB.out|apply bA|apply bN|apply bD|refine bS ?_ GE734.out)|exact HB.out)) hb);clear BK734 HB;have BK734:=n0_;have HB:=n1_;clear n0_ n1_;(try clear hb)))
  go_ret
  exact ⟨by first|rfl|(simp <;> rfl)|(simp [*] <;> rfl),by repeat (first|(with_reducible first|exact HB.out|apply bA|apply bN|apply bD|refine bS ?_ GE734.out)|exact HB.out)⟩
 ·replace c3:=Bool.eq_false_iff.mpr c3
  subst c3
  have H1:(some (⟨#[]⟩:ByteArray)) = some r:=by rw [if_neg (show ¬ (false = true) by decide)] at H;exact H
  clear H
  have H:=H1
  clear H1
  obtain rfl:=Option.some.inj H
  go_enter Tryd.func18,Tryd.ntmps18
  go_wp2_with (first|((with_reducible refine gate_dst (N:=1) rfl ?_);refine box_event ?hg (N:=1) ?hd (cs:=#[.string a0_0, .slice A0_1 l0_1.length c0_1, .bool a0_2, .string a0_3]) (t:=25) ?hr ?_;(case hd=>rfl);(case hg=>rfl);(case hr=>(go_simp <;> rfl));intro gb734 hg w10 hbox hb;have n0_:=Am (bT (by repeat (first|(with_reducible first|exact HB.out|apply bA|apply bN|apply bD)|exact HB.out)) hb);have n1_:=Am (hbox);have n2_:=Am ((by rw [hg];exact (bU (by repeat (first|(with_reducible first|exact HB.out|apply bA|apply bN|apply bD)|exact HB.out))):w.heap.size ≤ gb734));have n3_:=n2_;clear HB;have HB:=n0_;have BK734:=n1_;have GW734:=n2_;have GE734:=n3_;clear n0_ n1_ n2_ n3_ hb hbox hg;obtain ⟨hcz11_0,hcz11_1,hcz11_2,hcz11_3,hfz11_0,hfz11_1,hfz11_2,hfz11_3⟩:=bX BK734.out)|((with_reducible refine gate_callee (f:=28) rfl ?_);refine goesL_ (some 4) rfl rfl Tryd.func28 (by kernel_rfl) rfl #[.agg #[.string a0_0, .slice A0_1 l0_1.length c0_1, .bool a0_2, .string a0_3]] rfl (aE1 rfl) ?_;(with_reducible refine (impl_AddrOk.calls k a0_0 _ _ l0_1 a0_2 a0_3 false _ ?side1 ?side2 A2.out).mono ?_);(case side1=>repeat (first|exact (Kd.C_below HR0_1.out HB.out)|(with_reducible refine bC ?_)));(case side2=>exact HC0_1.out);rintro e w12 ⟨rfl,hb⟩;refine ⟨_,rfl,?_⟩;have n0_:=Am (blk_below (bB BK734.out) hb);have n1_:=Am (bT (by repeat (first|(with_reducible first|exact HB.out|apply bA|apply bN|apply bD|refine bS ?_ GE734.out)|exact HB.out)) hb);clear BK734 HB;have BK734:=n0_;have HB:=n1_;clear n0_ n1_;(try clear hb)))
  go_ret
  exact ⟨by first|rfl|(simp <;> rfl)|(simp [*] <;> rfl),by repeat (first|(with_reducible first|exact HB.out|apply bA|apply bN|apply bD|refine bS ?_ GE734.out)|exact HB.out)⟩

mutual
def laws_FnJoinWhole.j0:Nat → List Int → List Int → Bool → Option (Bool)
 | 0,_,_,_=>none
 | k + 1,x0,x1,x21=>if x21 = true then (some true) else ((spec_DrawAddrJoin.f k x0).bind fun bt737=>((spec_DrawAddrText.f k x1).bind fun bt745=>((spec_AddrJoin.f k bt737.1 bt737.2.1 bt737.2.2.1 bt737.2.2.2.1 bt737.2.2.2.2).bind fun bt752=>((impl_AddrJoin.f k bt737.1 bt737.2.1 bt737.2.2.1 bt737.2.2.2.1 bt737.2.2.2.2).bind fun bt760=>(if (bt760.2.2.2.2 != bt752.2.2.2.2) = true then (none) else ((laws_lpAddr.f k bt760.1 bt760.2.1 bt760.2.2.1 bt760.2.2.2.1 bt752.1 bt752.2.1 bt752.2.2.1 bt752.2.2.2.1).bind fun t768=>(if t768 = true then ((spec_AddrOk.f k bt737.1 bt737.2.1 bt737.2.2.1 bt737.2.2.2.1).bind fun t769=>(if t769 = true then ((spec_AddrOk.f k bt745.1 bt745.2.1 bt745.2.2.1 bt745.2.2.2).bind fun t770=>(laws_FnJoinWhole.j1 k bt752.2.2.2.2 bt760.2.2.2.2 (!t770) bt737.1 bt737.2.1 bt737.2.2.1 bt737.2.2.2.1 bt745.1 bt745.2.1 bt745.2.2.1 bt745.2.2.2 bt752.1 bt752.2.1 bt752.2.2.1 bt752.2.2.2.1 bt760.1 bt760.2.1 bt760.2.2.1 bt760.2.2.2.1)) else (laws_FnJoinWhole.j1 k bt752.2.2.2.2 bt760.2.2.2.2 true bt737.1 bt737.2.1 bt737.2.2.1 bt737.2.2.2.1 bt745.1 bt745.2.1 bt745.2.2.1 bt745.2.2.2 bt752.1 bt752.2.1 bt752.2.2.1 bt752.2.2.2.1 bt760.1 bt760.2.1 bt760.2.2.1 bt760.2.2.2.1))) else (none))))))))
def laws_FnJoinWhole.j1:Nat → Bool → Bool → Bool → ByteArray → List ByteArray → Bool → ByteArray → ByteArray → List ByteArray → Bool → ByteArray → ByteArray → List ByteArray → Bool → ByteArray → ByteArray → List ByteArray → Bool → ByteArray → Option (Bool)
 | 0,_,_,_,_,_,_,_,_,_,_,_,_,_,_,_,_,_,_,_=>none
 | k + 1,x9,x11,x59,x745000,x745001,x745002,x745003,x752000,x752001,x752002,x752003,x760000,x760001,x760002,x760003,x768000,x768001,x768002,x768003=>if x59 = true then (if (x11 == x9) = true then ((laws_lpAddr.f k x768000 x768001 x768002 x768003 x760000 x760001 x760002 x760003).bind fun t771=>(some t771)) else (none)) else ((impl_AddrText.f k x752000 x752001 x752002 x752003).bind fun t772=>((impl_AddrJoin.f k x745000 x745001 x745002 x745003 t772).bind fun bt773=>(if bt773.2.2.2.2 = true then ((laws_lpAddr.f k bt773.1 bt773.2.1 bt773.2.2.1 bt773.2.2.2.1 x752000 x752001 x752002 x752003).bind fun t781=>(some t781)) else (none))))
end
def laws_FnJoinWhole.f (k:Nat) (l0:List Int) (l1:List Int):Option (Bool):=if (l0.length:Int) > 1048576 then (laws_FnJoinWhole.j0 k l0 l1 true) else (laws_FnJoinWhole.j0 k l0 l1 (decide ((l1.length:Int) > 1048576)))
theorem laws_FnJoinWhole.mono_l:∀ k,(∀ y0 y1 y2,LeO (laws_FnJoinWhole.j0 k y0 y1 y2) (laws_FnJoinWhole.j0 (k + 1) y0 y1 y2)) ∧ (∀ y0 y1 y2 y3 y4 y5 y6 y7 y8 y9 y10 y11 y12 y13 y14 y15 y16 y17 y18,LeO (laws_FnJoinWhole.j1 k y0 y1 y2 y3 y4 y5 y6 y7 y8 y9 y10 y11 y12 y13 y14 y15 y16 y17 y18) (laws_FnJoinWhole.j1 (k + 1) y0 y1 y2 y3 y4 y5 y6 y7 y8 y9 y10 y11 y12 y13 y14 y15 y16 y17 y18))
 | 0=>⟨fun _ _ _ r h=>by simp [laws_FnJoinWhole.j0] at h,fun _ _ _ _ _ _ _ _ _ _ _ _ _ _ _ _ _ _ _ r h=>by simp [laws_FnJoinWhole.j1] at h⟩
 | k + 1=>by
  obtain ⟨ih0,ih1⟩:=laws_FnJoinWhole.mono_l k
  refine ⟨?_,?_⟩
  ·intro y0 y1 y2
   unfold laws_FnJoinWhole.j0
   repeat' first
   | (with_reducible apply ih0)
   | (with_reducible apply ih1)
   | (with_reducible apply impl_AddrJoin.mono)
   | (with_reducible apply impl_AddrText.mono)
   | (with_reducible apply laws_lpAddr.mono)
   | (with_reducible apply spec_AddrJoin.mono)
   | (with_reducible apply spec_AddrOk.mono)
   | (with_reducible apply spec_DrawAddrJoin.mono)
   | (with_reducible apply spec_DrawAddrText.mono)
   | (with_reducible exact LeO.refl _)
   | (with_reducible exact LeO.none _)
   | (with_reducible refine LeO.ite ?_ ?_)
   | (with_reducible refine LeO.bind ?_ (fun _=>?_))












  ·intro y0 y1 y2 y3 y4 y5 y6 y7 y8 y9 y10 y11 y12 y13 y14 y15 y16 y17 y18
   unfold laws_FnJoinWhole.j1
   repeat' first
   | (with_reducible apply ih0)
   | (with_reducible apply ih1)
   | (with_reducible apply impl_AddrJoin.mono)
   | (with_reducible apply impl_AddrText.mono)
   | (with_reducible apply laws_lpAddr.mono)
   | (with_reducible apply spec_AddrJoin.mono)
   | (with_reducible apply spec_AddrOk.mono)
   | (with_reducible apply spec_DrawAddrJoin.mono)
   | (with_reducible apply spec_DrawAddrText.mono)
   | (with_reducible exact LeO.refl _)
   | (with_reducible exact LeO.none _)
   | (with_reducible refine LeO.ite ?_ ?_)
   | (with_reducible refine LeO.bind ?_ (fun _=>?_))












theorem laws_FnJoinWhole.mono:∀ a0 a1 k,LeO (laws_FnJoinWhole.f k a0 a1) (laws_FnJoinWhole.f (k + 1) a0 a1):=by
 intro a0 a1 k
 obtain ⟨ih0,ih1⟩:=laws_FnJoinWhole.mono_l k
 unfold laws_FnJoinWhole.f
 repeat' first
   | (with_reducible apply ih0)
   | (with_reducible apply ih1)
   | (with_reducible apply impl_AddrJoin.mono)
   | (with_reducible apply impl_AddrText.mono)
   | (with_reducible apply laws_lpAddr.mono)
   | (with_reducible apply spec_AddrJoin.mono)
   | (with_reducible apply spec_AddrOk.mono)
   | (with_reducible apply spec_DrawAddrJoin.mono)
   | (with_reducible apply spec_DrawAddrText.mono)
   | (with_reducible exact LeO.refl _)
   | (with_reducible exact LeO.none _)
   | (with_reducible refine LeO.ite ?_ ?_)
   | (with_reducible refine LeO.bind ?_ (fun _=>?_))












def laws_FnJoinWhole.T9:Bool × List (List Nat × List Nat):=(true,[([],[]),([],[]),([1],[1]),([0,2,2],[0,2]),([3],[3]),([4],[4]),([4],[4]),([],[]),([7,5,3,0,1,2,3,4,5,7],[5,7]),([6,8,0,1,2,3,4,5,6,7,8],[6])])
def laws_FnJoinWhole.B9:List Nat:=[0,0,2,7,15,31,31,0,191,511]
theorem laws_FnJoinWhole.tab9:rtab .any (opsOf Tryd.f4 9) = laws_FnJoinWhole.T9:=by kernel_rfl
theorem laws_FnJoinWhole.bits9:waitsOk laws_FnJoinWhole.T9.2 laws_FnJoinWhole.B9 = true:=by kernel_rfl
theorem laws_FnJoinWhole.calls (k:Nat) (A0:Option Addr) (c0:Nat) (l0:List Int) (A1:Option Addr) (c1:Nat) (l1:List Int) (r:Bool) (w:World) (hr0:Kd.C (Kd.int .u8) w A0 l0.length l0) (hc0:l0.length ≤ c0) (hr1:Kd.C (Kd.int .u8) w A1 l1.length l1) (hc1:l1.length ≤ c1) (h:laws_FnJoinWhole.f k l0 l1 = some r) :
  Calls Tryd.prog 4 #[.slice A0 l0.length c0, .slice A1 l1.length c1] w fun e w'=>e = .returned (.bool r) ∧ Below w.heap.size w w':=by
 have hu25:=Tryd.underlying25
 have HR0:=Am hr0
 have HC0:=Am hc0
 clear hr0 hc0
 have HR1:=Am hr1
 have HC1:=Am hc1
 clear hr1 hc1
 have HB:=Am (Below.refl w.heap.size w)
 have H:(if (l0.length:Int) > 1048576 then (laws_FnJoinWhole.j0 k l0 l1 true) else (laws_FnJoinWhole.j0 k l0 l1 (decide ((l1.length:Int) > 1048576)))) = some r:=h
 clear h
 have HC3:=Am H
 clear H
 go_enter Tryd.func4,Tryd.ntmps4
 go_upto_region 1 with (fail)
 go_cut [21] (fun v21 wc=>∃ (kq:Nat) (x21_2:Bool),v21 = .bool x21_2 ∧ Aside0 (laws_FnJoinWhole.j0 kq l0 l1 x21_2 = some r) ∧ Aside0 (kq ≤ k) ∧ Aside0 (Below w.heap.size w wc))
 case first =>
  have H:=HC3.out
  clear HC3
  by_cases c4:(l0.length:Int) > 1048576
  ·rw [if_pos c4] at H
   have c4b0:decide (1048576 < (l0.length:Int)) = true:=decide_eq_true c4
   have c4b1:decide (1048576 < l0.length) = true:=decide_eq_true (by omega)
   clear c4
   (first|rw [c4b0]|(simp only [i64_w,i32_w];rw [c4b0])|skip)
   have H':=Am H
   clear H
   go_wp2
   go_meet
   case rel=>exact ⟨_,(true),(by first|rfl|(simp;done)|(simp only [i64_w,i32_w] <;> rfl)|(simp [*];done)|(simp [emp_bne,emp_beq];done)),H',⟨by first|omega|exact Nat.le_refl _⟩,⟨by repeat (first|(with_reducible first|exact HB.out|apply bA|apply bN|apply bD)|exact HB.out)⟩⟩
  ·rw [if_neg c4] at H
   have c4b0:decide (1048576 < (l0.length:Int)) = false:=decide_eq_false c4
   have c4b1:decide (1048576 < l0.length) = false:=decide_eq_false (by omega)
   clear c4
   (first|rw [c4b0]|(simp only [i64_w,i32_w];rw [c4b0])|skip)
   have H':=Am H
   clear H
   go_wp2
   go_meet
   case rel=>exact ⟨_,(decide ((l1.length:Int) > 1048576)),(by first|rfl|(simp;done)|(simp only [i64_w,i32_w] <;> rfl)|(simp [*];done)|(simp [emp_bne,emp_beq];done)),H',⟨by first|omega|exact Nat.le_refl _⟩,⟨by repeat (first|(with_reducible first|exact HB.out|apply bA|apply bN|apply bD)|exact HB.out)⟩⟩
 case rest =>
  clear HC3
  try clear c1
  try clear p2
  try clear c4
  try clear c4b0
  try clear c4b1
  obtain ⟨kq,x21_2,rfl,HA,HJ2,HB⟩:=hcut
  cases kq with
  | zero=>exact absurd HA.out (by simp [laws_FnJoinWhole.j0])
  | succ kj2 =>
   have H:=HA.out
   clear HA
   simp only [laws_FnJoinWhole.j0] at H
   by_cases c5:x21_2 = true
   ·subst c5
    have H1:(some true) = some r:=by rw [if_pos rfl] at H;exact H
    clear H
    have H:=H1
    clear H1
    obtain rfl:=Option.some.inj H
    go_wp2
    go_ret
    exact ⟨by first|rfl|(simp <;> rfl)|(simp [*] <;> rfl),by repeat (first|(with_reducible first|exact HB.out|apply bA|apply bN|apply bD)|exact HB.out)⟩
   ·replace c5:=Bool.eq_false_iff.mpr c5
    subst c5
    have H1:((spec_DrawAddrJoin.f kj2 l0).bind fun bt737=>((spec_DrawAddrText.f kj2 l1).bind fun bt745=>((spec_AddrJoin.f kj2 bt737.1 bt737.2.1 bt737.2.2.1 bt737.2.2.2.1 bt737.2.2.2.2).bind fun bt752=>((impl_AddrJoin.f kj2 bt737.1 bt737.2.1 bt737.2.2.1 bt737.2.2.2.1 bt737.2.2.2.2).bind fun bt760=>(if (bt760.2.2.2.2 != bt752.2.2.2.2) = true then (none) else ((laws_lpAddr.f kj2 bt760.1 bt760.2.1 bt760.2.2.1 bt760.2.2.2.1 bt752.1 bt752.2.1 bt752.2.2.1 bt752.2.2.2.1).bind fun t768=>(if t768 = true then ((spec_AddrOk.f kj2 bt737.1 bt737.2.1 bt737.2.2.1 bt737.2.2.2.1).bind fun t769=>(if t769 = true then ((spec_AddrOk.f kj2 bt745.1 bt745.2.1 bt745.2.2.1 bt745.2.2.2).bind fun t770=>(laws_FnJoinWhole.j1 kj2 bt752.2.2.2.2 bt760.2.2.2.2 (!t770) bt737.1 bt737.2.1 bt737.2.2.1 bt737.2.2.2.1 bt745.1 bt745.2.1 bt745.2.2.1 bt745.2.2.2 bt752.1 bt752.2.1 bt752.2.2.1 bt752.2.2.2.1 bt760.1 bt760.2.1 bt760.2.2.1 bt760.2.2.2.1)) else (laws_FnJoinWhole.j1 kj2 bt752.2.2.2.2 bt760.2.2.2.2 true bt737.1 bt737.2.1 bt737.2.2.1 bt737.2.2.2.1 bt745.1 bt745.2.1 bt745.2.2.1 bt745.2.2.2 bt752.1 bt752.2.1 bt752.2.2.1 bt752.2.2.2.1 bt760.1 bt760.2.1 bt760.2.2.1 bt760.2.2.2.1))) else (none)))))))) = some r:=by rw [if_neg (show ¬ (false = true) by decide)] at H;exact H
    clear H
    have H:=H1
    clear H1
    replace H:=bI H
    obtain ⟨⟨t737,t738,t741,t742,t743⟩,A60,H⟩:=H
    replace H:((spec_DrawAddrText.f kj2 l1).bind fun bt745=>((spec_AddrJoin.f kj2 t737 t738 t741 t742 t743).bind fun bt752=>((impl_AddrJoin.f kj2 t737 t738 t741 t742 t743).bind fun bt760=>(if (bt760.2.2.2.2 != bt752.2.2.2.2) = true then (none) else ((laws_lpAddr.f kj2 bt760.1 bt760.2.1 bt760.2.2.1 bt760.2.2.2.1 bt752.1 bt752.2.1 bt752.2.2.1 bt752.2.2.2.1).bind fun t768=>(if t768 = true then ((spec_AddrOk.f kj2 t737 t738 t741 t742).bind fun t769=>(if t769 = true then ((spec_AddrOk.f kj2 bt745.1 bt745.2.1 bt745.2.2.1 bt745.2.2.2).bind fun t770=>(laws_FnJoinWhole.j1 kj2 bt752.2.2.2.2 bt760.2.2.2.2 (!t770) t737 t738 t741 t742 bt745.1 bt745.2.1 bt745.2.2.1 bt745.2.2.2 bt752.1 bt752.2.1 bt752.2.2.1 bt752.2.2.2.1 bt760.1 bt760.2.1 bt760.2.2.1 bt760.2.2.2.1)) else (laws_FnJoinWhole.j1 kj2 bt752.2.2.2.2 bt760.2.2.2.2 true t737 t738 t741 t742 bt745.1 bt745.2.1 bt745.2.2.1 bt745.2.2.2 bt752.1 bt752.2.1 bt752.2.2.1 bt752.2.2.2.1 bt760.1 bt760.2.1 bt760.2.2.1 bt760.2.2.2.1))) else (none))))))) = some r:=H
    have A6:=Am A60
    clear A60
    replace H:=bI H
    obtain ⟨⟨t745,t746,t749,t750⟩,A70,H⟩:=H
    replace H:((spec_AddrJoin.f kj2 t737 t738 t741 t742 t743).bind fun bt752=>((impl_AddrJoin.f kj2 t737 t738 t741 t742 t743).bind fun bt760=>(if (bt760.2.2.2.2 != bt752.2.2.2.2) = true then (none) else ((laws_lpAddr.f kj2 bt760.1 bt760.2.1 bt760.2.2.1 bt760.2.2.2.1 bt752.1 bt752.2.1 bt752.2.2.1 bt752.2.2.2.1).bind fun t768=>(if t768 = true then ((spec_AddrOk.f kj2 t737 t738 t741 t742).bind fun t769=>(if t769 = true then ((spec_AddrOk.f kj2 t745 t746 t749 t750).bind fun t770=>(laws_FnJoinWhole.j1 kj2 bt752.2.2.2.2 bt760.2.2.2.2 (!t770) t737 t738 t741 t742 t745 t746 t749 t750 bt752.1 bt752.2.1 bt752.2.2.1 bt752.2.2.2.1 bt760.1 bt760.2.1 bt760.2.2.1 bt760.2.2.2.1)) else (laws_FnJoinWhole.j1 kj2 bt752.2.2.2.2 bt760.2.2.2.2 true t737 t738 t741 t742 t745 t746 t749 t750 bt752.1 bt752.2.1 bt752.2.2.1 bt752.2.2.2.1 bt760.1 bt760.2.1 bt760.2.2.1 bt760.2.2.2.1))) else (none)))))) = some r:=H
    have A7:=Am A70
    clear A70
    replace H:=bI H
    obtain ⟨⟨t752,t753,t756,t757,t758⟩,A80,H⟩:=H
    replace H:((impl_AddrJoin.f kj2 t737 t738 t741 t742 t743).bind fun bt760=>(if (bt760.2.2.2.2 != t758) = true then (none) else ((laws_lpAddr.f kj2 bt760.1 bt760.2.1 bt760.2.2.1 bt760.2.2.2.1 t752 t753 t756 t757).bind fun t768=>(if t768 = true then ((spec_AddrOk.f kj2 t737 t738 t741 t742).bind fun t769=>(if t769 = true then ((spec_AddrOk.f kj2 t745 t746 t749 t750).bind fun t770=>(laws_FnJoinWhole.j1 kj2 t758 bt760.2.2.2.2 (!t770) t737 t738 t741 t742 t745 t746 t749 t750 t752 t753 t756 t757 bt760.1 bt760.2.1 bt760.2.2.1 bt760.2.2.2.1)) else (laws_FnJoinWhole.j1 kj2 t758 bt760.2.2.2.2 true t737 t738 t741 t742 t745 t746 t749 t750 t752 t753 t756 t757 bt760.1 bt760.2.1 bt760.2.2.1 bt760.2.2.2.1))) else (none))))) = some r:=H
    have A8:=Am A80
    clear A80
    replace H:=bI H
    obtain ⟨⟨t760,t761,t764,t765,t766⟩,A90,H⟩:=H
    replace H:(if (t766 != t758) = true then (none) else ((laws_lpAddr.f kj2 t760 t761 t764 t765 t752 t753 t756 t757).bind fun t768=>(if t768 = true then ((spec_AddrOk.f kj2 t737 t738 t741 t742).bind fun t769=>(if t769 = true then ((spec_AddrOk.f kj2 t745 t746 t749 t750).bind fun t770=>(laws_FnJoinWhole.j1 kj2 t758 t766 (!t770) t737 t738 t741 t742 t745 t746 t749 t750 t752 t753 t756 t757 t760 t761 t764 t765)) else (laws_FnJoinWhole.j1 kj2 t758 t766 true t737 t738 t741 t742 t745 t746 t749 t750 t752 t753 t756 t757 t760 t761 t764 t765))) else (none)))) = some r:=H
    have A9:=Am A90
    clear A90
    have HC10:=Am H
    clear H
    go_upto_region 7 with (first|((with_reducible refine gate_callee (f:=11) rfl ?_);refine goesL_ (some 24) rfl rfl Tryd.func11 (by kernel_rfl) rfl #[.slice A0 l0.length c0] rfl (aE1 rfl) ?_;(with_reducible refine (spec_DrawAddrJoin.calls kj2 _ _ l0 t737 t738 t741 t742 t743 _ ?side1 ?side2 A6.out).mono ?_);(case side1=>repeat (first|exact (Kd.C_below HR0.out HB.out)|(with_reducible refine bC ?_)));(case side2=>exact HC0.out);rintro e w11 ⟨v739,rfl,ho0,hb⟩;refine ⟨_,rfl,?_⟩;have n0_:=Am (Kd.R_lower ho0 (bU (by repeat (first|(with_reducible first|exact HB.out|apply bA|apply bN|apply bD)|exact HB.out))));have n1_:=Am (bT (by repeat (first|(with_reducible first|exact HB.out|apply bA|apply bN|apply bD)|exact HB.out)) hb);clear HB;have HO740:=n0_;have HB:=n1_;clear n0_ n1_;(try clear hb);(try clear ho0))|((with_reducible refine gate_dst (N:=5) rfl ?_);(try (refine gate_guard (by rfl) ?_;dsimp only));refine box_event ?hg (N:=5) ?hd (cs:=#[.string (⟨#[]⟩:ByteArray), .slice none 0 0, .bool false, .string (⟨#[]⟩:ByteArray)]) (t:=25) ?hr ?_;(case hd=>rfl);(case hg=>rfl);(case hr=>(go_simp <;> rfl));intro gb744 hg w12 hbox hb;have n0_:=bH HO740 hb;have n1_:=Am (bT (by repeat (first|(with_reducible first|exact HB.out|apply bA|apply bN|apply bD)|exact HB.out)) hb);have n2_:=Am (hbox);have n3_:=Am ((by rw [hg];exact (bU (by repeat (first|(with_reducible first|exact HB.out|apply bA|apply bN|apply bD)|exact HB.out))):w.heap.size ≤ gb744));have n4_:=n3_;clear HO740 HB;have HO740:=n0_;have HB:=n1_;have BK744:=n2_;have GW744:=n3_;have GE744:=n4_;clear n0_ n1_ n2_ n3_ n4_ hb hbox hg;obtain ⟨hcz13_0,hcz13_1,hcz13_2,hcz13_3,hfz13_0,hfz13_1,hfz13_2,hfz13_3⟩:=bX BK744.out;obtain ⟨Ao14,co14,eo14⟩:=Kd.R_slice HO740.out;subst eo14)|((with_reducible refine gate_callee (f:=17) rfl ?_);refine goesL_ (some 28) rfl rfl Tryd.func17 (by kernel_rfl) rfl #[.slice A1 l1.length c1] rfl (aE1 rfl) ?_;(with_reducible refine (spec_DrawAddrText.calls kj2 _ _ l1 t745 t746 t749 t750 _ ?side1 ?side2 A7.out).mono ?_);(case side1=>exact Kd.C_below HR1.out (by repeat (first|(with_reducible first|exact HB.out|apply bA|apply bN|apply bD|refine bS ?_ GE744.out)|exact HB.out)));(case side2=>exact HC1.out);rintro e w15 ⟨v747,rfl,ho0,hb⟩;refine ⟨_,rfl,?_⟩;have n0_:=Am (Kd.R_elder' (by (with_reducible repeat (first|apply rA|apply rN|apply rD));exact (bQ HO740.out BK744.out (by decide) _ _ _ _)) (Kd.R_base ho0) hb);have n1_:=Am (Kd.R_lower (Kd.R_new' ho0 (Kd.R_lt (by (with_reducible repeat (first|apply rA|apply rN|apply rD));exact (bQ HO740.out BK744.out (by decide) _ _ _ _)))) (bU (by repeat (first|(with_reducible first|exact HB.out|apply bA|apply bN|apply bD|refine bS ?_ GE744.out)|exact HB.out))));have n2_:=Am (blk_below (g:=gb744) (o:=.cells #[.string t737, .slice Ao14 t738.length co14, .bool t741, .string t742] 25 (0,0)) (by refine bB ?_;apply bP;refine bB ?_;exact BK744.out) hb);have n3_:=Am (bT (by repeat (first|(with_reducible first|exact HB.out|apply bA|apply bN|apply bD|refine bS ?_ GE744.out)|exact HB.out)) hb);clear HO740 BK744 HB;have HO740:=n0_;have HO748:=n1_;have BK744:=n2_;have HB:=n3_;clear n0_ n1_ n2_ n3_;(try clear hb);(try clear ho0))|((with_reducible refine gate_dst (N:=7) rfl ?_);(try (refine gate_guard (by rfl) ?_;dsimp only));refine box_event ?hg (N:=7) ?hd (cs:=#[.string (⟨#[]⟩:ByteArray), .slice none 0 0, .bool false, .string (⟨#[]⟩:ByteArray)]) (t:=25) ?hr ?_;(case hd=>rfl);(case hg=>rfl);(case hr=>(go_simp <;> rfl));intro gb751 hg w16 hbox hb;have n0_:=bH HO740 hb;have n1_:=bH HO748 hb;have n2_:=Am (blk_below (bB BK744.out) hb);have n3_:=Am (bT (by repeat (first|(with_reducible first|exact HB.out|apply bA|apply bN|apply bD|refine bS ?_ GE744.out)|exact HB.out)) hb);have n4_:=Am (hbox);have n5_:=Am ((by rw [hg];exact (bU (by repeat (first|(with_reducible first|exact HB.out|apply bA|apply bN|apply bD|refine bS ?_ GE744.out)|exact HB.out))):w.heap.size ≤ gb751));have n6_:=n5_;have n7_:=Am ((by rw [hg];exact Nat.ne_of_lt (blk_lt (bB BK744.out)):gb744 ≠ gb751));have n8_:=Am ((by rw [hg];exact Nat.ne_of_gt (blk_lt (bB BK744.out)):gb751 ≠ gb744));clear HO740 HO748 BK744 HB;have HO740:=n0_;have HO748:=n1_;have BK744:=n2_;have HB:=n3_;have BK751:=n4_;have GW751:=n5_;have GE751:=n6_;have NB744_751:=n7_;have NB751_744:=n8_;clear n0_ n1_ n2_ n3_ n4_ n5_ n6_ n7_ n8_ hb hbox hg;have hnb17:=NB751_744.out;have hnc17:=NB744_751.out;obtain ⟨hcz18_0,hcz18_1,hcz18_2,hcz18_3,hfz18_0,hfz18_1,hfz18_2,hfz18_3⟩:=bX BK751.out;obtain ⟨Ao19,co19,eo19⟩:=Kd.R_slice HO748.out;subst eo19;obtain ⟨hcz20_0,hcz20_1,hcz20_2,hcz20_3,hfz20_0,hfz20_1,hfz20_2,hfz20_3⟩:=bX BK744.out)|((with_reducible refine gate_callee (f:=12) rfl ?_);refine goesL_ (some 32) rfl rfl Tryd.func12 (by kernel_rfl) rfl #[.agg #[.string t737, .slice Ao14 t738.length co14, .bool t741, .string t742], .string t743] rfl (aE2 rfl rfl) ?_;(with_reducible refine (spec_AddrJoin.calls kj2 t737 _ _ t738 t741 t742 t743 t752 t753 t756 t757 t758 _ ?side1 ?side2 A8.out).mono ?_);(case side1=>refine (Kd.R_reads' (e:=9) (base:=w.heap.size) (ok:=fun k_=>(True ∧ some k_ ≠ (.slice Ao19 t746.length co19:Value).ownBlock)) (n:=t738.length) (c:=co14) ?_).2.2;exact (by (with_reducible repeat (first|apply rA|apply rN|apply rD));exact (bQ HO740.out BK751.out (by decide) _ _ _ _)));(case side2=>exact (Kd.R_reads' HO740.out).2.1);rintro e w21 ⟨v754,rfl,ho0,hb⟩;refine ⟨_,rfl,?_⟩;have n0_:=Am (Kd.R_elder' (by (with_reducible repeat (first|apply rA|apply rN|apply rD));exact (bQ HO740.out BK751.out (by decide) _ _ _ _)) (Kd.R_base ho0) hb);have n1_:=Am (Kd.R_elder' (by (with_reducible repeat (first|apply rA|apply rN|apply rD));exact (bQ HO748.out BK751.out (by decide) _ _ _ _)) (Kd.R_base ho0) hb);have n2_:=Am (Kd.R_lower (Kd.R_new' (Kd.R_new' ho0 (Kd.R_lt (by (with_reducible repeat (first|apply rA|apply rN|apply rD));exact (bQ HO740.out BK751.out (by decide) _ _ _ _)))) (Kd.R_lt (by (with_reducible repeat (first|apply rA|apply rN|apply rD));exact (bQ HO748.out BK751.out (by decide) _ _ _ _)))) (bU (by repeat (first|(with_reducible first|exact HB.out|apply bA|apply bN|apply bD|refine bS ?_ GE744.out|refine bS ?_ GE751.out)|exact HB.out))));have n3_:=Am (blk_below (g:=gb744) (o:=.cells #[.string t737, .slice Ao14 t738.length co14, .bool t741, .string t742] 25 (0,0)) (by refine bB ?_;refine bF ?_ NB744_751.out;refine bB ?_;exact BK744.out) hb);have n4_:=Am (blk_below (g:=gb751) (o:=.cells #[.string t745, .slice Ao19 t746.length co19, .bool t749, .string t750] 25 (0,0)) (by refine bB ?_;apply bP;refine bB ?_;exact BK751.out) hb);have n5_:=Am (bT (by repeat (first|(with_reducible first|exact HB.out|apply bA|apply bN|apply bD|refine bS ?_ GE744.out|refine bS ?_ GE751.out)|exact HB.out)) hb);clear HO740 HO748 BK744 BK751 HB;have HO740:=n0_;have HO748:=n1_;have HO755:=n2_;have BK744:=n3_;have BK751:=n4_;have HB:=n5_;clear n0_ n1_ n2_ n3_ n4_ n5_;(try clear hb);(try clear ho0))|((with_reducible refine gate_dst (N:=8) rfl ?_);(try (refine gate_guard (by rfl) ?_;dsimp only));refine box_event ?hg (N:=8) ?hd (cs:=#[.string (⟨#[]⟩:ByteArray), .slice none 0 0, .bool false, .string (⟨#[]⟩:ByteArray)]) (t:=25) ?hr ?_;(case hd=>rfl);(case hg=>rfl);(case hr=>(go_simp <;> rfl));intro gb759 hg w22 hbox hb;have n0_:=bH HO740 hb;have n1_:=bH HO748 hb;have n2_:=bH HO755 hb;have n3_:=Am (blk_below (bB BK744.out) hb);have n4_:=Am (blk_below (bB BK751.out) hb);have n5_:=Am (bT (by repeat (first|(with_reducible first|exact HB.out|apply bA|apply bN|apply bD|refine bS ?_ GE744.out|refine bS ?_ GE751.out)|exact HB.out)) hb);have n6_:=Am (hbox);have n7_:=Am ((by rw [hg];exact (bU (by repeat (first|(with_reducible first|exact HB.out|apply bA|apply bN|apply bD|refine bS ?_ GE744.out|refine bS ?_ GE751.out)|exact HB.out))):w.heap.size ≤ gb759));have n8_:=n7_;have n9_:=Am ((by rw [hg];exact Nat.ne_of_lt (blk_lt (bB BK744.out)):gb744 ≠ gb759));have n10_:=Am ((by rw [hg];exact Nat.ne_of_gt (blk_lt (bB BK744.out)):gb759 ≠ gb744));have n11_:=Am ((by rw [hg];exact Nat.ne_of_lt (blk_lt (bB BK751.out)):gb751 ≠ gb759));have n12_:=Am ((by rw [hg];exact Nat.ne_of_gt (blk_lt (bB BK751.out)):gb759 ≠ gb751));clear HO740 HO748 HO755 BK744 BK751 HB;have HO740:=n0_;have HO748:=n1_;have HO755:=n2_;have BK744:=n3_;have BK751:=n4_;have HB:=n5_;have BK759:=n6_;have GW759:=n7_;have GE759:=n8_;have NB744_759:=n9_;have NB759_744:=n10_;have NB751_759:=n11_;have NB759_751:=n12_;clear n0_ n1_ n2_ n3_ n4_ n5_ n6_ n7_ n8_ n9_ n10_ n11_ n12_ hb hbox hg;have hnb23:=NB759_744.out;have hnc23:=NB744_759.out;have hnb24:=NB759_751.out;have hnc24:=NB751_759.out;obtain ⟨hcz25_0,hcz25_1,hcz25_2,hcz25_3,hfz25_0,hfz25_1,hfz25_2,hfz25_3⟩:=bX BK759.out;obtain ⟨Ao26,co26,eo26⟩:=Kd.R_slice HO755.out;subst eo26;obtain ⟨hcz27_0,hcz27_1,hcz27_2,hcz27_3,hfz27_0,hfz27_1,hfz27_2,hfz27_3⟩:=bX BK744.out)|((with_reducible refine gate_callee (f:=13) rfl ?_);refine goesL_ (some 38) rfl rfl Tryd.func13 (by kernel_rfl) rfl #[.agg #[.string t737, .slice Ao14 t738.length co14, .bool t741, .string t742], .string t743] rfl (aE2 rfl rfl) ?_;(with_reducible refine (impl_AddrJoin.calls kj2 t737 _ _ t738 t741 t742 t743 t760 t761 t764 t765 t766 _ ?side1 ?side2 A9.out).mono ?_);(case side1=>refine (Kd.R_reads' (e:=9) (base:=w.heap.size) (ok:=fun k_=>((True ∧ some k_ ≠ (.slice Ao19 t746.length co19:Value).ownBlock) ∧ some k_ ≠ (.slice Ao26 t753.length co26:Value).ownBlock)) (n:=t738.length) (c:=co14) ?_).2.2;exact (by (with_reducible repeat (first|apply rA|apply rN|apply rD));exact (bQ HO740.out BK759.out (by decide) _ _ _ _)));(case side2=>exact (Kd.R_reads' HO740.out).2.1);rintro e w28 ⟨v762,rfl,ho0,hb⟩;refine ⟨_,rfl,?_⟩;have n0_:=Am (Kd.R_elder' (by (with_reducible repeat (first|apply rA|apply rN|apply rD));exact (bQ HO740.out BK759.out (by decide) _ _ _ _)) (Kd.R_base ho0) hb);have n1_:=Am (Kd.R_elder' (by (with_reducible repeat (first|apply rA|apply rN|apply rD));exact (bQ HO748.out BK759.out (by decide) _ _ _ _)) (Kd.R_base ho0) hb);have n2_:=Am (Kd.R_elder' (by (with_reducible repeat (first|apply rA|apply rN|apply rD));exact (bQ HO755.out BK759.out (by decide) _ _ _ _)) (Kd.R_base ho0) hb);have n3_:=Am (Kd.R_lower (Kd.R_new' (Kd.R_new' (Kd.R_new' ho0 (Kd.R_lt (by (with_reducible repeat (first|apply rA|apply rN|apply rD));exact (bQ HO740.out BK759.out (by decide) _ _ _ _)))) (Kd.R_lt (by (with_reducible repeat (first|apply rA|apply rN|apply rD));exact (bQ HO748.out BK759.out (by decide) _ _ _ _)))) (Kd.R_lt (by (with_reducible repeat (first|apply rA|apply rN|apply rD));exact (bQ HO755.out BK759.out (by decide) _ _ _ _)))) (bU (by repeat (first|(with_reducible first|exact HB.out|apply bA|apply bN|apply bD|refine bS ?_ GE744.out|refine bS ?_ GE751.out|refine bS ?_ GE759.out)|exact HB.out))));have n4_:=Am (blk_below (g:=gb744) (o:=.cells #[.string t737, .slice Ao14 t738.length co14, .bool t741, .string t742] 25 (0,0)) (by refine bB ?_;refine bF ?_ NB744_759.out;refine bB ?_;exact BK744.out) hb);have n5_:=Am (blk_below (g:=gb751) (o:=.cells #[.string t745, .slice Ao19 t746.length co19, .bool t749, .string t750] 25 (0,0)) (by refine bB ?_;refine bF ?_ NB751_759.out;refine bB ?_;exact BK751.out) hb);have n6_:=Am (blk_below (g:=gb759) (o:=.cells #[.string t752, .slice Ao26 t753.length co26, .bool t756, .string t757] 25 (0,0)) (by refine bB ?_;apply bP;refine bB ?_;exact BK759.out) hb);have n7_:=Am (bT (by repeat (first|(with_reducible first|exact HB.out|apply bA|apply bN|apply bD|refine bS ?_ GE744.out|refine bS ?_ GE751.out|refine bS ?_ GE759.out)|exact HB.out)) hb);clear HO740 HO748 HO755 BK744 BK751 BK759 HB;have HO740:=n0_;have HO748:=n1_;have HO755:=n2_;have HO763:=n3_;have BK744:=n4_;have BK751:=n5_;have BK759:=n6_;have HB:=n7_;clear n0_ n1_ n2_ n3_ n4_ n5_ n6_ n7_;(try clear hb);(try clear ho0))|((with_reducible refine gate_dst (N:=10) rfl ?_);(try (refine gate_guard (by rfl) ?_;dsimp only));refine box_event ?hg (N:=10) ?hd (cs:=#[.string (⟨#[]⟩:ByteArray), .slice none 0 0, .bool false, .string (⟨#[]⟩:ByteArray)]) (t:=25) ?hr ?_;(case hd=>rfl);(case hg=>rfl);(case hr=>(go_simp <;> rfl));intro gb767 hg w29 hbox hb;have n0_:=bH HO740 hb;have n1_:=bH HO748 hb;have n2_:=bH HO755 hb;have n3_:=bH HO763 hb;have n4_:=Am (blk_below (bB BK744.out) hb);have n5_:=Am (blk_below (bB BK751.out) hb);have n6_:=Am (blk_below (bB BK759.out) hb);have n7_:=Am (bT (by repeat (first|(with_reducible first|exact HB.out|apply bA|apply bN|apply bD|refine bS ?_ GE744.out|refine bS ?_ GE751.out|refine bS ?_ GE759.out)|exact HB.out)) hb);have n8_:=Am (hbox);have n9_:=Am ((by rw [hg];exact (bU (by repeat (first|(with_reducible first|exact HB.out|apply bA|apply bN|apply bD|refine bS ?_ GE744.out|refine bS ?_ GE751.out|refine bS ?_ GE759.out)|exact HB.out))):w.heap.size ≤ gb767));have n10_:=n9_;have n11_:=Am ((by rw [hg];exact Nat.ne_of_lt (blk_lt (bB BK744.out)):gb744 ≠ gb767));have n12_:=Am ((by rw [hg];exact Nat.ne_of_gt (blk_lt (bB BK744.out)):gb767 ≠ gb744));have n13_:=Am ((by rw [hg];exact Nat.ne_of_lt (blk_lt (bB BK751.out)):gb751 ≠ gb767));have n14_:=Am ((by rw [hg];exact Nat.ne_of_gt (blk_lt (bB BK751.out)):gb767 ≠ gb751));have n15_:=Am ((by rw [hg];exact Nat.ne_of_lt (blk_lt (bB BK759.out)):gb759 ≠ gb767));have n16_:=Am ((by rw [hg];exact Nat.ne_of_gt (blk_lt (bB BK759.out)):gb767 ≠ gb759));clear HO740 HO748 HO755 HO763 BK744 BK751 BK759 HB;have HO740:=n0_;have HO748:=n1_;have HO755:=n2_;have HO763:=n3_;have BK744:=n4_;have BK751:=n5_;have BK759:=n6_;have HB:=n7_;have BK767:=n8_;have GW767:=n9_;have GE767:=n10_;have NB744_767:=n11_;have NB767_744:=n12_;have NB751_767:=n13_;have NB767_751:=n14_;have NB759_767:=n15_;have NB767_759:=n16_;clear n0_ n1_ n2_ n3_ n4_ n5_ n6_ n7_ n8_ n9_ n10_ n11_ n12_ n13_ n14_ n15_ n16_ hb hbox hg;have hnb30:=NB767_744.out;have hnc30:=NB744_767.out;have hnb31:=NB767_751.out;have hnc31:=NB751_767.out;have hnb32:=NB767_759.out;have hnc32:=NB759_767.out;obtain ⟨hcz33_0,hcz33_1,hcz33_2,hcz33_3,hfz33_0,hfz33_1,hfz33_2,hfz33_3⟩:=bX BK767.out;obtain ⟨Ao34,co34,eo34⟩:=Kd.R_slice HO763.out;subst eo34))
    (try simp only [Act.put,lT,lZ,lS])
    go_cut [59] (fun v59 wc=>∃ (kq:Nat) (x59_9:Bool),v59 = .bool x59_9 ∧ Aside0 (laws_FnJoinWhole.j1 kq t758 t766 x59_9 t737 t738 t741 t742 t745 t746 t749 t750 t752 t753 t756 t757 t760 t761 t764 t765 = some r) ∧ Aside0 (kq ≤ kj2) ∧ Aside0 (Kd.R Kd.string 9 wc w.heap.size (fun k_=>some k_ ≠ ((.slice Ao19 t746.length co19):Value).ownBlock ∧ some k_ ≠ ((.slice Ao26 t753.length co26):Value).ownBlock ∧ some k_ ≠ ((.slice Ao34 t761.length co34):Value).ownBlock) (.slice Ao14 t738.length co14) t738) ∧ Aside0 (Kd.R Kd.string 9 wc w.heap.size (fun k_=>some k_ ≠ ((.slice Ao14 t738.length co14):Value).ownBlock ∧ some k_ ≠ ((.slice Ao26 t753.length co26):Value).ownBlock ∧ some k_ ≠ ((.slice Ao34 t761.length co34):Value).ownBlock) (.slice Ao19 t746.length co19) t746) ∧ Aside0 (Kd.R Kd.string 9 wc w.heap.size (fun k_=>some k_ ≠ ((.slice Ao14 t738.length co14):Value).ownBlock ∧ some k_ ≠ ((.slice Ao19 t746.length co19):Value).ownBlock ∧ some k_ ≠ ((.slice Ao34 t761.length co34):Value).ownBlock) (.slice Ao26 t753.length co26) t753) ∧ Aside0 (Kd.R Kd.string 9 wc w.heap.size (fun k_=>some k_ ≠ ((.slice Ao14 t738.length co14):Value).ownBlock ∧ some k_ ≠ ((.slice Ao19 t746.length co19):Value).ownBlock ∧ some k_ ≠ ((.slice Ao26 t753.length co26):Value).ownBlock) (.slice Ao34 t761.length co34) t761) ∧ Aside0 (wc.heap[gb744]? = some (.cells #[.string t737,(.slice Ao14 t738.length co14), .bool t741, .string t742] 25 (0,0))) ∧ Aside0 (wc.heap[gb751]? = some (.cells #[.string t745,(.slice Ao19 t746.length co19), .bool t749, .string t750] 25 (0,0))) ∧ Aside0 (wc.heap[gb759]? = some (.cells #[.string t752,(.slice Ao26 t753.length co26), .bool t756, .string t757] 25 (0,0))) ∧ Aside0 (wc.heap[gb767]? = some (.cells #[.string t760,(.slice Ao34 t761.length co34), .bool t764, .string t765] 25 (0,0))) ∧ Aside0 (Below w.heap.size w wc))
    case first =>
     have H:=HC10.out
     clear HC10
     by_cases c35:(t766 != t758) = true
     ·rw [if_pos c35] at H
      exact absurd H (by simp)
     ·rw [if_neg c35] at H
      have c35b0:(t766 != t758) = false:=by simpa using c35
      (try (have c35b1:decide (t766 = t758) = true:=by simpa using c35))
      (try (have c35b2:(t766 == t758) = true:=by simpa using c35))
      clear c35
      (first|rw [c35b0]|(simp only [i64_w,i32_w];rw [c35b0])|skip)
      replace H:=bI H
      obtain ⟨t768,A360,H⟩:=H
      replace H:(if t768 = true then ((spec_AddrOk.f kj2 t737 t738 t741 t742).bind fun t769=>(if t769 = true then ((spec_AddrOk.f kj2 t745 t746 t749 t750).bind fun t770=>(laws_FnJoinWhole.j1 kj2 t758 t766 (!t770) t737 t738 t741 t742 t745 t746 t749 t750 t752 t753 t756 t757 t760 t761 t764 t765)) else (laws_FnJoinWhole.j1 kj2 t758 t766 true t737 t738 t741 t742 t745 t746 t749 t750 t752 t753 t756 t757 t760 t761 t764 t765))) else (none)) = some r:=H
      have A36:=Am A360
      clear A360
      by_cases c37:t768 = true
      ·subst c37
       have H1:((spec_AddrOk.f kj2 t737 t738 t741 t742).bind fun t769=>(if t769 = true then ((spec_AddrOk.f kj2 t745 t746 t749 t750).bind fun t770=>(laws_FnJoinWhole.j1 kj2 t758 t766 (!t770) t737 t738 t741 t742 t745 t746 t749 t750 t752 t753 t756 t757 t760 t761 t764 t765)) else (laws_FnJoinWhole.j1 kj2 t758 t766 true t737 t738 t741 t742 t745 t746 t749 t750 t752 t753 t756 t757 t760 t761 t764 t765))) = some r:=by rw [if_pos rfl] at H;exact H
       clear H
       have H:=H1
       clear H1
       replace H:=bI H
       obtain ⟨t769,A380,H⟩:=H
       replace H:(if t769 = true then ((spec_AddrOk.f kj2 t745 t746 t749 t750).bind fun t770=>(laws_FnJoinWhole.j1 kj2 t758 t766 (!t770) t737 t738 t741 t742 t745 t746 t749 t750 t752 t753 t756 t757 t760 t761 t764 t765)) else (laws_FnJoinWhole.j1 kj2 t758 t766 true t737 t738 t741 t742 t745 t746 t749 t750 t752 t753 t756 t757 t760 t761 t764 t765)) = some r:=H
       have A38:=Am A380
       clear A380
       by_cases c39:t769 = true
       ·subst c39
        have H1:((spec_AddrOk.f kj2 t745 t746 t749 t750).bind fun t770=>(laws_FnJoinWhole.j1 kj2 t758 t766 (!t770) t737 t738 t741 t742 t745 t746 t749 t750 t752 t753 t756 t757 t760 t761 t764 t765)) = some r:=by rw [if_pos rfl] at H;exact H
        clear H
        have H:=H1
        clear H1
        replace H:=bI H
        obtain ⟨t770,A400,H⟩:=H
        replace H:(laws_FnJoinWhole.j1 kj2 t758 t766 (!t770) t737 t738 t741 t742 t745 t746 t749 t750 t752 t753 t756 t757 t760 t761 t764 t765) = some r:=H
        have A40:=Am A400
        clear A400
        have H':=Am H
        clear H
        have hnb41:=NB767_744.out
        have hnc41:=NB744_767.out
        have hnb42:=NB767_751.out
        have hnc42:=NB751_767.out
        have hnb43:=NB767_759.out
        have hnc43:=NB759_767.out
        obtain ⟨hcz44_0,hcz44_1,hcz44_2,hcz44_3,hfz44_0,hfz44_1,hfz44_2,hfz44_3⟩:=bX BK767.out







        have hnb45:=NB759_744.out
        have hnc45:=NB744_759.out
        have hnb46:=NB759_751.out
        have hnc46:=NB751_759.out
        obtain ⟨hcz47_0,hcz47_1,hcz47_2,hcz47_3,hfz47_0,hfz47_1,hfz47_2,hfz47_3⟩:=bX BK759.out







        go_wp2_with (first|(go_at_call 14;(with_reducible refine (laws_lpAddr.calls kj2 t760 _ _ t761 t764 t765 t752 _ _ t753 t756 t757 true _ ?side1 ?side2 ?side3 ?side4 A36.out).mono ?_);(case side1=>refine (Kd.R_reads' (e:=9) (base:=w.heap.size) (ok:=fun k_=>(((True ∧ some k_ ≠ (.slice Ao14 t738.length co14:Value).ownBlock) ∧ some k_ ≠ (.slice Ao19 t746.length co19:Value).ownBlock) ∧ some k_ ≠ (.slice Ao26 t753.length co26:Value).ownBlock)) (n:=t761.length) (c:=co34) ?_).2.2;exact (by (with_reducible repeat (first|apply rA|apply rN|apply rD));exact (bQ HO763.out BK767.out (by decide) _ _ _ _)));(case side2=>exact (Kd.R_reads' HO763.out).2.1);(case side3=>refine (Kd.R_reads' (e:=9) (base:=w.heap.size) (ok:=fun k_=>(((True ∧ some k_ ≠ (.slice Ao14 t738.length co14:Value).ownBlock) ∧ some k_ ≠ (.slice Ao19 t746.length co19:Value).ownBlock) ∧ some k_ ≠ (.slice Ao34 t761.length co34:Value).ownBlock)) (n:=t753.length) (c:=co26) ?_).2.2;exact (by (with_reducible repeat (first|apply rA|apply rN|apply rD));exact (bQ HO755.out BK767.out (by decide) _ _ _ _)));(case side4=>exact (Kd.R_reads' HO755.out).2.1);rintro e w48 ⟨rfl,hb⟩;have n0_:=Am (Kd.R_below (by (with_reducible repeat (first|apply rA|apply rN|apply rD));exact (bQ HO740.out BK767.out (by decide) _ _ _ _)) hb);have n1_:=Am (Kd.R_below (by (with_reducible repeat (first|apply rA|apply rN|apply rD));exact (bQ HO748.out BK767.out (by decide) _ _ _ _)) hb);have n2_:=Am (Kd.R_below (by (with_reducible repeat (first|apply rA|apply rN|apply rD));exact (bQ HO755.out BK767.out (by decide) _ _ _ _)) hb);have n3_:=Am (Kd.R_below (by (with_reducible repeat (first|apply rA|apply rN|apply rD));exact (bQ HO763.out BK767.out (by decide) _ _ _ _)) hb);have n4_:=Am (blk_below (g:=gb744) (o:=.cells #[.string t737, .slice Ao14 t738.length co14, .bool t741, .string t742] 25 (0,0)) (by refine bB ?_;refine bF ?_ NB744_767.out;refine bB ?_;exact BK744.out) hb);have n5_:=Am (blk_below (g:=gb751) (o:=.cells #[.string t745, .slice Ao19 t746.length co19, .bool t749, .string t750] 25 (0,0)) (by refine bB ?_;refine bF ?_ NB751_767.out;refine bB ?_;exact BK751.out) hb);have n6_:=Am (blk_below (g:=gb759) (o:=.cells #[.string t752, .slice Ao26 t753.length co26, .bool t756, .string t757] 25 (0,0)) (by refine bB ?_;refine bF ?_ NB759_767.out;refine bB ?_;exact BK759.out) hb);have n7_:=Am (blk_below (g:=gb767) (o:=.cells #[.string t760, .slice Ao34 t761.length co34, .bool t764, .string t765] 25 (0,0)) (by refine bB ?_;apply bP;refine bB ?_;exact BK767.out) hb);have n8_:=Am (bT (by repeat (first|(with_reducible first|exact HB.out|apply bA|apply bN|apply bD|refine bS ?_ GE744.out|refine bS ?_ GE751.out|refine bS ?_ GE759.out|refine bS ?_ GE767.out)|exact HB.out)) hb);clear HO740 HO748 HO755 HO763 BK744 BK751 BK759 BK767 HB;have HO740:=n0_;have HO748:=n1_;have HO755:=n2_;have HO763:=n3_;have BK744:=n4_;have BK751:=n5_;have BK759:=n6_;have BK767:=n7_;have HB:=n8_;clear n0_ n1_ n2_ n3_ n4_ n5_ n6_ n7_ n8_;(try clear hb);have hnb49:=NB744_751.out;have hnc49:=NB751_744.out;obtain ⟨hcz50_0,hcz50_1,hcz50_2,hcz50_3,hfz50_0,hfz50_1,hfz50_2,hfz50_3⟩:=bX BK744.out)|(go_at_call 15;(with_reducible refine (spec_AddrOk.calls kj2 t737 _ _ t738 t741 t742 true _ ?side1 ?side2 A38.out).mono ?_);(case side1=>repeat (first|exact (Kd.R_reads' HO740.out).2.2|(with_reducible refine bC ?_)));(case side2=>exact (Kd.R_reads' HO740.out).2.1);rintro e w51 ⟨rfl,hb⟩;have n0_:=bH HO740 hb;have n1_:=bH HO748 hb;have n2_:=bH HO755 hb;have n3_:=bH HO763 hb;have n4_:=Am (blk_below (bB BK744.out) hb);have n5_:=Am (blk_below (bB BK751.out) hb);have n6_:=Am (blk_below (bB BK759.out) hb);have n7_:=Am (blk_below (bB BK767.out) hb);have n8_:=Am (bT (by repeat (first|(with_reducible first|exact HB.out|apply bA|apply bN|apply bD|refine bS ?_ GE744.out|refine bS ?_ GE751.out|refine bS ?_ GE759.out|refine bS ?_ GE767.out)|exact HB.out)) hb);clear HO740 HO748 HO755 HO763 BK744 BK751 BK759 BK767 HB;have HO740:=n0_;have HO748:=n1_;have HO755:=n2_;have HO763:=n3_;have BK744:=n4_;have BK751:=n5_;have BK759:=n6_;have BK767:=n7_;have HB:=n8_;clear n0_ n1_ n2_ n3_ n4_ n5_ n6_ n7_ n8_;(try clear hb);obtain ⟨hcz52_0,hcz52_1,hcz52_2,hcz52_3,hfz52_0,hfz52_1,hfz52_2,hfz52_3⟩:=bX BK751.out)|(go_at_call 15;(with_reducible refine (spec_AddrOk.calls kj2 t745 _ _ t746 t749 t750 t770 _ ?side1 ?side2 A40.out).mono ?_);(case side1=>repeat (first|exact (Kd.R_reads' HO748.out).2.2|(with_reducible refine bC ?_)));(case side2=>exact (Kd.R_reads' HO748.out).2.1);rintro e w53 ⟨rfl,hb⟩;have n0_:=bH HO740 hb;have n1_:=bH HO748 hb;have n2_:=bH HO755 hb;have n3_:=bH HO763 hb;have n4_:=Am (blk_below (bB BK744.out) hb);have n5_:=Am (blk_below (bB BK751.out) hb);have n6_:=Am (blk_below (bB BK759.out) hb);have n7_:=Am (blk_below (bB BK767.out) hb);have n8_:=Am (bT (by repeat (first|(with_reducible first|exact HB.out|apply bA|apply bN|apply bD|refine bS ?_ GE744.out|refine bS ?_ GE751.out|refine bS ?_ GE759.out|refine bS ?_ GE767.out)|exact HB.out)) hb);clear HO740 HO748 HO755 HO763 BK744 BK751 BK759 BK767 HB;have HO740:=n0_;have HO748:=n1_;have HO755:=n2_;have HO763:=n3_;have BK744:=n4_;have BK751:=n5_;have BK759:=n6_;have BK767:=n7_;have HB:=n8_;clear n0_ n1_ n2_ n3_ n4_ n5_ n6_ n7_ n8_;(try clear hb)))
        go_meet
        case rel=>exact ⟨_,(!t770),(by first|rfl|(simp;done)|(simp only [i64_w,i32_w] <;> rfl)|(simp [*];done)|(simp [emp_bne,emp_beq];done)),H',⟨by have:=HJ2.out;first|omega|exact Nat.le_refl _⟩,⟨by (with_reducible repeat (first|apply rA|apply rN|apply rD));exact Kd.R_mono HO740.out (fun _ hk=>⟨hk.1.1.2,⟨hk.1.2,hk.2⟩⟩)⟩,⟨by (with_reducible repeat (first|apply rA|apply rN|apply rD));exact Kd.R_mono HO748.out (fun _ hk=>⟨hk.1.1.2,⟨hk.1.2,hk.2⟩⟩)⟩,⟨by (with_reducible repeat (first|apply rA|apply rN|apply rD));exact Kd.R_mono HO755.out (fun _ hk=>⟨hk.1.1.2,⟨hk.1.2,hk.2⟩⟩)⟩,⟨by (with_reducible repeat (first|apply rA|apply rN|apply rD));exact Kd.R_mono HO763.out (fun _ hk=>⟨hk.1.1.2,⟨hk.1.2,hk.2⟩⟩)⟩,⟨by refine bB ?_;exact BK744.out⟩,⟨by refine bB ?_;exact BK751.out⟩,⟨by refine bB ?_;exact BK759.out⟩,⟨by refine bB ?_;exact BK767.out⟩,⟨by repeat (first|(with_reducible first|exact HB.out|apply bA|apply bN|apply bD|refine bS ?_ GE744.out|refine bS ?_ GE751.out|refine bS ?_ GE759.out|refine bS ?_ GE767.out)|exact HB.out)⟩⟩
       ·replace c39:=Bool.eq_false_iff.mpr c39
        subst c39
        have H1:(laws_FnJoinWhole.j1 kj2 t758 t766 true t737 t738 t741 t742 t745 t746 t749 t750 t752 t753 t756 t757 t760 t761 t764 t765) = some r:=by rw [if_neg (show ¬ (false = true) by decide)] at H;exact H
        clear H
        have H:=H1
        clear H1
        have H':=Am H
        clear H
        have hnb54:=NB767_744.out
        have hnc54:=NB744_767.out
        have hnb55:=NB767_751.out
        have hnc55:=NB751_767.out
        have hnb56:=NB767_759.out
        have hnc56:=NB759_767.out
        obtain ⟨hcz57_0,hcz57_1,hcz57_2,hcz57_3,hfz57_0,hfz57_1,hfz57_2,hfz57_3⟩:=bX BK767.out







        have hnb58:=NB759_744.out
        have hnc58:=NB744_759.out
        have hnb59:=NB759_751.out
        have hnc59:=NB751_759.out
        obtain ⟨hcz60_0,hcz60_1,hcz60_2,hcz60_3,hfz60_0,hfz60_1,hfz60_2,hfz60_3⟩:=bX BK759.out







        go_wp2_with (first|(go_at_call 14;(with_reducible refine (laws_lpAddr.calls kj2 t760 _ _ t761 t764 t765 t752 _ _ t753 t756 t757 true _ ?side1 ?side2 ?side3 ?side4 A36.out).mono ?_);(case side1=>refine (Kd.R_reads' (e:=9) (base:=w.heap.size) (ok:=fun k_=>(((True ∧ some k_ ≠ (.slice Ao14 t738.length co14:Value).ownBlock) ∧ some k_ ≠ (.slice Ao19 t746.length co19:Value).ownBlock) ∧ some k_ ≠ (.slice Ao26 t753.length co26:Value).ownBlock)) (n:=t761.length) (c:=co34) ?_).2.2;exact (by (with_reducible repeat (first|apply rA|apply rN|apply rD));exact (bQ HO763.out BK767.out (by decide) _ _ _ _)));(case side2=>exact (Kd.R_reads' HO763.out).2.1);(case side3=>refine (Kd.R_reads' (e:=9) (base:=w.heap.size) (ok:=fun k_=>(((True ∧ some k_ ≠ (.slice Ao14 t738.length co14:Value).ownBlock) ∧ some k_ ≠ (.slice Ao19 t746.length co19:Value).ownBlock) ∧ some k_ ≠ (.slice Ao34 t761.length co34:Value).ownBlock)) (n:=t753.length) (c:=co26) ?_).2.2;exact (by (with_reducible repeat (first|apply rA|apply rN|apply rD));exact (bQ HO755.out BK767.out (by decide) _ _ _ _)));(case side4=>exact (Kd.R_reads' HO755.out).2.1);rintro e w61 ⟨rfl,hb⟩;have n0_:=Am (Kd.R_below (by (with_reducible repeat (first|apply rA|apply rN|apply rD));exact (bQ HO740.out BK767.out (by decide) _ _ _ _)) hb);have n1_:=Am (Kd.R_below (by (with_reducible repeat (first|apply rA|apply rN|apply rD));exact (bQ HO748.out BK767.out (by decide) _ _ _ _)) hb);have n2_:=Am (Kd.R_below (by (with_reducible repeat (first|apply rA|apply rN|apply rD));exact (bQ HO755.out BK767.out (by decide) _ _ _ _)) hb);have n3_:=Am (Kd.R_below (by (with_reducible repeat (first|apply rA|apply rN|apply rD));exact (bQ HO763.out BK767.out (by decide) _ _ _ _)) hb);have n4_:=Am (blk_below (g:=gb744) (o:=.cells #[.string t737, .slice Ao14 t738.length co14, .bool t741, .string t742] 25 (0,0)) (by refine bB ?_;refine bF ?_ NB744_767.out;refine bB ?_;exact BK744.out) hb);have n5_:=Am (blk_below (g:=gb751) (o:=.cells #[.string t745, .slice Ao19 t746.length co19, .bool t749, .string t750] 25 (0,0)) (by refine bB ?_;refine bF ?_ NB751_767.out;refine bB ?_;exact BK751.out) hb);have n6_:=Am (blk_below (g:=gb759) (o:=.cells #[.string t752, .slice Ao26 t753.length co26, .bool t756, .string t757] 25 (0,0)) (by refine bB ?_;refine bF ?_ NB759_767.out;refine bB ?_;exact BK759.out) hb);have n7_:=Am (blk_below (g:=gb767) (o:=.cells #[.string t760, .slice Ao34 t761.length co34, .bool t764, .string t765] 25 (0,0)) (by refine bB ?_;apply bP;refine bB ?_;exact BK767.out) hb);have n8_:=Am (bT (by repeat (first|(with_reducible first|exact HB.out|apply bA|apply bN|apply bD|refine bS ?_ GE744.out|refine bS ?_ GE751.out|refine bS ?_ GE759.out|refine bS ?_ GE767.out)|exact HB.out)) hb);clear HO740 HO748 HO755 HO763 BK744 BK751 BK759 BK767 HB;have HO740:=n0_;have HO748:=n1_;have HO755:=n2_;have HO763:=n3_;have BK744:=n4_;have BK751:=n5_;have BK759:=n6_;have BK767:=n7_;have HB:=n8_;clear n0_ n1_ n2_ n3_ n4_ n5_ n6_ n7_ n8_;(try clear hb);have hnb62:=NB744_751.out;have hnc62:=NB751_744.out;obtain ⟨hcz63_0,hcz63_1,hcz63_2,hcz63_3,hfz63_0,hfz63_1,hfz63_2,hfz63_3⟩:=bX BK744.out)|(go_at_call 15;(with_reducible refine (spec_AddrOk.calls kj2 t737 _ _ t738 t741 t742 false _ ?side1 ?side2 A38.out).mono ?_);(case side1=>repeat (first|exact (Kd.R_reads' HO740.out).2.2|(with_reducible refine bC ?_)));(case side2=>exact (Kd.R_reads' HO740.out).2.1);rintro e w64 ⟨rfl,hb⟩;have n0_:=bH HO740 hb;have n1_:=bH HO748 hb;have n2_:=bH HO755 hb;have n3_:=bH HO763 hb;have n4_:=Am (blk_below (bB BK744.out) hb);have n5_:=Am (blk_below (bB BK751.out) hb);have n6_:=Am (blk_below (bB BK759.out) hb);have n7_:=Am (blk_below (bB BK767.out) hb);have n8_:=Am (bT (by repeat (first|(with_reducible first|exact HB.out|apply bA|apply bN|apply bD|refine bS ?_ GE744.out|refine bS ?_ GE751.out|refine bS ?_ GE759.out|refine bS ?_ GE767.out)|exact HB.out)) hb);clear HO740 HO748 HO755 HO763 BK744 BK751 BK759 BK767 HB;have HO740:=n0_;have HO748:=n1_;have HO755:=n2_;have HO763:=n3_;have BK744:=n4_;have BK751:=n5_;have BK759:=n6_;have BK767:=n7_;have HB:=n8_;clear n0_ n1_ n2_ n3_ n4_ n5_ n6_ n7_ n8_;(try clear hb)))
        go_meet
        case rel=>exact ⟨_,(true),(by first|rfl|(simp;done)|(simp only [i64_w,i32_w] <;> rfl)|(simp [*];done)|(simp [emp_bne,emp_beq];done)),H',⟨by have:=HJ2.out;first|omega|exact Nat.le_refl _⟩,⟨by (with_reducible repeat (first|apply rA|apply rN|apply rD));exact Kd.R_mono HO740.out (fun _ hk=>⟨hk.1.1.2,⟨hk.1.2,hk.2⟩⟩)⟩,⟨by (with_reducible repeat (first|apply rA|apply rN|apply rD));exact Kd.R_mono HO748.out (fun _ hk=>⟨hk.1.1.2,⟨hk.1.2,hk.2⟩⟩)⟩,⟨by (with_reducible repeat (first|apply rA|apply rN|apply rD));exact Kd.R_mono HO755.out (fun _ hk=>⟨hk.1.1.2,⟨hk.1.2,hk.2⟩⟩)⟩,⟨by (with_reducible repeat (first|apply rA|apply rN|apply rD));exact Kd.R_mono HO763.out (fun _ hk=>⟨hk.1.1.2,⟨hk.1.2,hk.2⟩⟩)⟩,⟨by refine bB ?_;exact BK744.out⟩,⟨by refine bB ?_;exact BK751.out⟩,⟨by refine bB ?_;exact BK759.out⟩,⟨by refine bB ?_;exact BK767.out⟩,⟨by repeat (first|(with_reducible first|exact HB.out|apply bA|apply bN|apply bD|refine bS ?_ GE744.out|refine bS ?_ GE751.out|refine bS ?_ GE759.out|refine bS ?_ GE767.out)|exact HB.out)⟩⟩
      ·replace c37:=Bool.eq_false_iff.mpr c37
       subst c37
       have H1:(none) = some r:=by rw [if_neg (show ¬ (false = true) by decide)] at H;exact H
       clear H
       have H:=H1
       clear H1
       exact absurd H (by simp)
    case rest =>
     clear HC10
     try clear c1
     try clear c2
     try clear p2
     try clear c3
     try clear c4
     try clear c4b0
     try clear c4b1
     try clear c5
     try clear c6
     try clear c11
     try clear c12
     try clear c13
     try clear c17
     try clear c23
     try clear c24
     try clear c30
     try clear c31
     try clear c32
     try clear c35
     try clear c35b0
     try clear c35b1
     try clear c35b2
     try clear c37
     try clear c39
     try clear c41
     try clear c42
     try clear c43
     try clear c45
     try clear c46
     try clear c49
     try clear c54
     try clear c55
     try clear c56
     try clear c58
     try clear c59
     try clear c62
     try clear hcz13_0
     try clear hcz13_1
     try clear hcz13_2
     try clear hcz13_3
     try clear hcz18_0
     try clear hcz18_1
     try clear hcz18_2
     try clear hcz18_3
     try clear hcz20_0
     try clear hcz20_1
     try clear hcz20_2
     try clear hcz20_3
     try clear hcz25_0
     try clear hcz25_1
     try clear hcz25_2
     try clear hcz25_3
     try clear hcz27_0
     try clear hcz27_1
     try clear hcz27_2
     try clear hcz27_3
     try clear hcz33_0
     try clear hcz33_1
     try clear hcz33_2
     try clear hcz33_3
     try clear hcz44_0
     try clear hcz44_1
     try clear hcz44_2
     try clear hcz44_3
     try clear hcz47_0
     try clear hcz47_1
     try clear hcz47_2
     try clear hcz47_3
     try clear hcz50_0
     try clear hcz50_1
     try clear hcz50_2
     try clear hcz50_3
     try clear hcz52_0
     try clear hcz52_1
     try clear hcz52_2
     try clear hcz52_3
     try clear hcz57_0
     try clear hcz57_1
     try clear hcz57_2
     try clear hcz57_3
     try clear hcz60_0
     try clear hcz60_1
     try clear hcz60_2
     try clear hcz60_3
     try clear hcz63_0
     try clear hcz63_1
     try clear hcz63_2
     try clear hcz63_3
     try clear hfz13_0
     try clear hfz13_1
     try clear hfz13_2
     try clear hfz13_3
     try clear hfz18_0
     try clear hfz18_1
     try clear hfz18_2
     try clear hfz18_3
     try clear hfz20_0
     try clear hfz20_1
     try clear hfz20_2
     try clear hfz20_3
     try clear hfz25_0
     try clear hfz25_1
     try clear hfz25_2
     try clear hfz25_3
     try clear hfz27_0
     try clear hfz27_1
     try clear hfz27_2
     try clear hfz27_3
     try clear hfz33_0
     try clear hfz33_1
     try clear hfz33_2
     try clear hfz33_3
     try clear hfz44_0
     try clear hfz44_1
     try clear hfz44_2
     try clear hfz44_3
     try clear hfz47_0
     try clear hfz47_1
     try clear hfz47_2
     try clear hfz47_3
     try clear hfz50_0
     try clear hfz50_1
     try clear hfz50_2
     try clear hfz50_3
     try clear hfz52_0
     try clear hfz52_1
     try clear hfz52_2
     try clear hfz52_3
     try clear hfz57_0
     try clear hfz57_1
     try clear hfz57_2
     try clear hfz57_3
     try clear hfz60_0
     try clear hfz60_1
     try clear hfz60_2
     try clear hfz60_3
     try clear hfz63_0
     try clear hfz63_1
     try clear hfz63_2
     try clear hfz63_3
     try clear p2
     obtain ⟨kq,x59_9,rfl,HA,HJ9,HO_745001,HO_752001,HO_760001,HO_768001,BK744,BK751,BK759,BK767,HB⟩:=hcut
     cases kq with
     | zero=>exact absurd HA.out (by simp [laws_FnJoinWhole.j1])
     | succ kj9 =>
      have H:=HA.out
      clear HA
      simp only [laws_FnJoinWhole.j1] at H
      by_cases c65:x59_9 = true
      ·subst c65
       have H1:(if (t766 == t758) = true then ((laws_lpAddr.f kj9 t760 t761 t764 t765 t752 t753 t756 t757).bind fun t771=>(some t771)) else (none)) = some r:=by rw [if_pos rfl] at H;exact H
       clear H
       have H:=H1
       clear H1
       by_cases c66:(t766 == t758) = true
       ·rw [if_pos c66] at H
        have c66b0:(t766 == t758) = true:=c66
        (try (have c66b1:decide (t766 = t758) = true:=by simpa using c66))
        (try (have c66b2:(t766 == t758) = true:=by simpa using c66))
        clear c66
        replace H:=bI H
        obtain ⟨t771,A670,H⟩:=H
        replace H:(some t771) = some r:=H
        have A67:=Am A670
        clear A670
        obtain rfl:=Option.some.inj H
        have hnb68:=NB767_744.out
        have hnc68:=NB744_767.out
        have hnb69:=NB767_751.out
        have hnc69:=NB751_767.out
        have hnb70:=NB767_759.out
        have hnc70:=NB759_767.out
        obtain ⟨hcz71_0,hcz71_1,hcz71_2,hcz71_3,hfz71_0,hfz71_1,hfz71_2,hfz71_3⟩:=bX BK767.out







        have hnb72:=NB759_744.out
        have hnc72:=NB744_759.out
        have hnb73:=NB759_751.out
        have hnc73:=NB751_759.out
        obtain ⟨hcz74_0,hcz74_1,hcz74_2,hcz74_3,hfz74_0,hfz74_1,hfz74_2,hfz74_3⟩:=bX BK759.out







        go_wp2_with (first|(go_at_call 14;(with_reducible refine (laws_lpAddr.calls kj9 t760 _ _ t761 t764 t765 t752 _ _ t753 t756 t757 t771 _ ?side1 ?side2 ?side3 ?side4 A67.out).mono ?_);(case side1=>repeat (first|exact (Kd.R_reads' HO_768001.out).2.2|(with_reducible refine bC ?_)));(case side2=>exact (Kd.R_reads' HO_768001.out).2.1);(case side3=>repeat (first|exact (Kd.R_reads' HO_760001.out).2.2|(with_reducible refine bC ?_)));(case side4=>exact (Kd.R_reads' HO_760001.out).2.1);rintro e w75 ⟨rfl,hb⟩;have n0_:=bH HO_745001 hb;have n1_:=bH HO_752001 hb;have n2_:=bH HO_760001 hb;have n3_:=bH HO_768001 hb;have n4_:=Am (blk_below (bB BK744.out) hb);have n5_:=Am (blk_below (bB BK751.out) hb);have n6_:=Am (blk_below (bB BK759.out) hb);have n7_:=Am (blk_below (bB BK767.out) hb);have n8_:=Am (bT (by repeat (first|(with_reducible first|exact HB.out|apply bA|apply bN|apply bD|refine bS ?_ GE744.out|refine bS ?_ GE751.out|refine bS ?_ GE759.out|refine bS ?_ GE767.out)|exact HB.out)) hb);clear HO_745001 HO_752001 HO_760001 HO_768001 BK744 BK751 BK759 BK767 HB;have HO_745001:=n0_;have HO_752001:=n1_;have HO_760001:=n2_;have HO_768001:=n3_;have BK744:=n4_;have BK751:=n5_;have BK759:=n6_;have BK767:=n7_;have HB:=n8_;clear n0_ n1_ n2_ n3_ n4_ n5_ n6_ n7_ n8_;(try clear hb)))
        go_ret
        exact ⟨by first|rfl|(simp <;> rfl)|(simp [*] <;> rfl),by repeat (first|(with_reducible first|exact HB.out|apply bA|apply bN|apply bD|refine bS ?_ GE744.out|refine bS ?_ GE751.out|refine bS ?_ GE759.out|refine bS ?_ GE767.out)|exact HB.out)⟩
       ·rw [if_neg c66] at H
        exact absurd H (by simp)
      ·replace c65:=Bool.eq_false_iff.mpr c65
       subst c65
       have H1:((impl_AddrText.f kj9 t745 t746 t749 t750).bind fun t772=>((impl_AddrJoin.f kj9 t737 t738 t741 t742 t772).bind fun bt773=>(if bt773.2.2.2.2 = true then ((laws_lpAddr.f kj9 bt773.1 bt773.2.1 bt773.2.2.1 bt773.2.2.2.1 t745 t746 t749 t750).bind fun t781=>(some t781)) else (none)))) = some r:=by rw [if_neg (show ¬ (false = true) by decide)] at H;exact H
       clear H
       have H:=H1
       clear H1
       replace H:=bI H
       obtain ⟨t772,A760,H⟩:=H
       replace H:((impl_AddrJoin.f kj9 t737 t738 t741 t742 t772).bind fun bt773=>(if bt773.2.2.2.2 = true then ((laws_lpAddr.f kj9 bt773.1 bt773.2.1 bt773.2.2.1 bt773.2.2.2.1 t745 t746 t749 t750).bind fun t781=>(some t781)) else (none))) = some r:=H
       have A76:=Am A760
       clear A760
       replace H:=bI H
       obtain ⟨⟨t773,t774,t777,t778,t779⟩,A770,H⟩:=H
       replace H:(if t779 = true then ((laws_lpAddr.f kj9 t773 t774 t777 t778 t745 t746 t749 t750).bind fun t781=>(some t781)) else (none)) = some r:=H
       have A77:=Am A770
       clear A770
       by_cases c78:t779 = true
       ·subst c78
        have H1:((laws_lpAddr.f kj9 t773 t774 t777 t778 t745 t746 t749 t750).bind fun t781=>(some t781)) = some r:=by rw [if_pos rfl] at H;exact H
        clear H
        have H:=H1
        clear H1
        replace H:=bI H
        obtain ⟨t781,A790,H⟩:=H
        replace H:(some t781) = some r:=H
        have A79:=Am A790
        clear A790
        obtain rfl:=Option.some.inj H
        try go_wp2
        have n0_:=Am (Kd.R_drew HO_745001.out)
        have n1_:=Am (Kd.R_drew HO_752001.out)
        have n2_:=Am (Kd.R_drew HO_760001.out)
        have n3_:=Am (Kd.R_drew HO_768001.out)
        have n4_:=Am (blk_drew BK744.out)
        have n5_:=Am (blk_drew BK751.out)
        have n6_:=Am (blk_drew BK759.out)
        have n7_:=Am (blk_drew BK767.out)
        have n8_:=Am (below_drew1 HB.out)
        clear HO_745001
        clear HO_752001
        clear HO_760001
        clear HO_768001
        clear BK744
        clear BK751
        clear BK759
        clear BK767
        clear HB
        have HO_745001:=n0_
        have HO_752001:=n1_
        have HO_760001:=n2_
        have HO_768001:=n3_
        have BK744:=n4_
        have BK751:=n5_
        have BK759:=n6_
        have BK767:=n7_
        have HB:=n8_
        clear n0_ n1_ n2_ n3_ n4_ n5_ n6_ n7_ n8_
        refine start_ (n:=10) (S:=fun w'=>w'.cell? ⟨gb744,0,none⟩ = some (.string t737) ∧ w'.cell? ⟨gb744,1,none⟩ = some (.slice Ao14 t738.length co14) ∧ w'.cell? ⟨gb744,2,none⟩ = some (.bool t741) ∧ w'.cell? ⟨gb744,3,none⟩ = some (.string t742) ∧ w'.cell? ⟨gb751,0,none⟩ = some (.string t745) ∧ w'.cell? ⟨gb751,1,none⟩ = some (.slice Ao19 t746.length co19) ∧ w'.cell? ⟨gb751,2,none⟩ = some (.bool t749) ∧ w'.cell? ⟨gb751,3,none⟩ = some (.string t750)) (ds:=[]) #[false,false,false,false,false,false,false,false,false,false] (by kernel_rfl) rfl rfl ⟨bM BK744.out 0 rfl,bM BK744.out 1 rfl,bM BK744.out 2 rfl,bM BK744.out 3 rfl,bM BK751.out 0 rfl,bM BK751.out 1 rfl,bM BK751.out 2 rfl,bM BK751.out 3 rfl⟩ (fun hHeld=>?_);refine with_tabW laws_FnJoinWhole.tab9 laws_FnJoinWhole.bits9 (fun HT_ HW_=>?_)
        generalize wc.drew = w80 at HO_745001 HO_752001 HO_760001 HO_768001 BK744 BK751 BK759 BK767 HB hHeld ⊢
        refine take_ (i:=0) (N:=some 69) (v:=?_) (a':=?_) #[true,false,false,false,false,false,false,false,false,false] rfl rfl (take_ofW HT_.out HW_.out (by kernel_rfl)) (fun _ _ _ h=>h) (Or.inl ⟨by rfl,?_⟩) hHeld ?_ ?_
        rotate_left
        ·rintro w' ⟨s0,s1,s2,s3,s4,s5,s6,s7⟩
         go_simp
         with_reducible rfl
        rotate_left
        ·simp only [Act.put,lT,lZ,lS,i64_w,i32_w]
         rfl
        refine take_ (i:=1) (N:=some 70) (v:=?_) (a':=?_) #[true,true,false,false,false,false,false,false,false,false] rfl rfl (take_ofW HT_.out HW_.out (by kernel_rfl)) (fun _ _ _ h=>h) (Or.inl ⟨by rfl,?_⟩) hHeld ?_ ?_
        rotate_left
        ·rintro w' ⟨s0,s1,s2,s3,s4,s5,s6,s7⟩
         go_simp
         with_reducible rfl
        rotate_left
        ·simp only [Act.put,lT,lZ,lS,i64_w,i32_w]
         rfl
        refine join_ (σ:=Value × Nat) 2 #[true,true,true,true,true,true,true,true,false,false] (fun s_=>[(71, .string t772),(72, .tuple #[.agg #[.string t773,s_.1, .bool t777, .string t778], .bool true]),(12, .pointer (some ⟨s_.2,0,none⟩)),(68, .tuple #[.agg #[.string t773,s_.1, .bool t777, .string t778], .bool true]),(73, .agg #[.string t773,s_.1, .bool t777, .string t778]),(74, .bool true)]) (fun s_ w'=>(w'.cell? ⟨gb744,0,none⟩ = some (.string t737) ∧ w'.cell? ⟨gb744,1,none⟩ = some (.slice Ao14 t738.length co14) ∧ w'.cell? ⟨gb744,2,none⟩ = some (.bool t741) ∧ w'.cell? ⟨gb744,3,none⟩ = some (.string t742) ∧ w'.cell? ⟨gb751,0,none⟩ = some (.string t745) ∧ w'.cell? ⟨gb751,1,none⟩ = some (.slice Ao19 t746.length co19) ∧ w'.cell? ⟨gb751,2,none⟩ = some (.bool t749) ∧ w'.cell? ⟨gb751,3,none⟩ = some (.string t750)) ∧ (Kd.R Kd.string 9 w' w.heap.size (fun k_=>some k_ ≠ (.slice Ao14 t738.length co14:Value).ownBlock ∧ some k_ ≠ (.slice Ao19 t746.length co19:Value).ownBlock ∧ some k_ ≠ (.slice Ao26 t753.length co26:Value).ownBlock ∧ some k_ ≠ (.slice Ao34 t761.length co34:Value).ownBlock) s_.1 t774) ∧ (Kd.R Kd.string 9 w' w.heap.size (fun k_=>some k_ ≠ (s_.1:Value).ownBlock ∧ some k_ ≠ (.slice Ao19 t746.length co19:Value).ownBlock ∧ some k_ ≠ (.slice Ao26 t753.length co26:Value).ownBlock ∧ some k_ ≠ (.slice Ao34 t761.length co34:Value).ownBlock) (.slice Ao14 t738.length co14) t738) ∧ (Kd.R Kd.string 9 w' w.heap.size (fun k_=>some k_ ≠ (s_.1:Value).ownBlock ∧ some k_ ≠ (.slice Ao14 t738.length co14:Value).ownBlock ∧ some k_ ≠ (.slice Ao26 t753.length co26:Value).ownBlock ∧ some k_ ≠ (.slice Ao34 t761.length co34:Value).ownBlock) (.slice Ao19 t746.length co19) t746) ∧ (Kd.R Kd.string 9 w' w.heap.size (fun k_=>some k_ ≠ (s_.1:Value).ownBlock ∧ some k_ ≠ (.slice Ao14 t738.length co14:Value).ownBlock ∧ some k_ ≠ (.slice Ao19 t746.length co19:Value).ownBlock ∧ some k_ ≠ (.slice Ao34 t761.length co34:Value).ownBlock) (.slice Ao26 t753.length co26) t753) ∧ (Kd.R Kd.string 9 w' w.heap.size (fun k_=>some k_ ≠ (s_.1:Value).ownBlock ∧ some k_ ≠ (.slice Ao14 t738.length co14:Value).ownBlock ∧ some k_ ≠ (.slice Ao19 t746.length co19:Value).ownBlock ∧ some k_ ≠ (.slice Ao26 t753.length co26:Value).ownBlock) (.slice Ao34 t761.length co34) t761) ∧ (w'.heap[gb744]? = some (.cells #[.string t737, .slice Ao14 t738.length co14, .bool t741, .string t742] 25 (0,0))) ∧ (w'.heap[gb751]? = some (.cells #[.string t745, .slice Ao19 t746.length co19, .bool t749, .string t750] 25 (0,0))) ∧ (w'.heap[gb759]? = some (.cells #[.string t752, .slice Ao26 t753.length co26, .bool t756, .string t757] 25 (0,0))) ∧ (w'.heap[gb767]? = some (.cells #[.string t760, .slice Ao34 t761.length co34, .bool t764, .string t765] 25 (0,0))) ∧ (w'.heap[s_.2]? = some (.cells #[.string (⟨#[]⟩:ByteArray), .slice none 0 0, .bool false, .string (⟨#[]⟩:ByteArray)] 25 (0,0))) ∧ (w.heap.size ≤ s_.2) ∧ (w.heap.size ≤ s_.2) ∧ (gb744 ≠ s_.2) ∧ (s_.2 ≠ gb744) ∧ (gb751 ≠ s_.2) ∧ (s_.2 ≠ gb751) ∧ (gb759 ≠ s_.2) ∧ (s_.2 ≠ gb759) ∧ (gb767 ≠ s_.2) ∧ (s_.2 ≠ gb767) ∧ (Below w.heap.size w w')) ?_ ?_
        rotate_left
        ·intro hCont
         refine two_ (i:=2) (j:=7) (Ni:=some 71) (Nj:=some 12) #[true,true,true,false,false,false,false,false,false,false] #[true,true,false,false,false,false,false,true,false,false] rfl rfl rfl rfl (two_of HT_.out (by kernel_rfl)) (by decide) (by decide) (fun K hK=>?_) (fun K hK=>?_)
         ·skip
          refine goes_ Tryd.func18 (by kernel_rfl) rfl #[.agg #[.string t745, .slice Ao19 t746.length co19, .bool t749, .string t750]] (by rfl) rfl rfl (by (try simp only [List.map_toArray,List.map_cons,List.map_nil]);first|done|rfl|(simp only [List.length_drop,List.length_take];rfl)) ?_
          with_reducible refine (impl_AddrText.calls kj9 t745 _ _ t746 t749 t750 t772 _ ?side1 ?side2 A76.out).mono ?_
          (case side1=>repeat (first|exact (Kd.R_reads' HO_752001.out).2.2|(with_reducible refine bC ?_)))
          (case side2=>exact (Kd.R_reads' HO_752001.out).2.1)
          rintro e w81 ⟨rfl,hb⟩
          refine ⟨_,rfl,?_⟩
          have n0_:=bH HO_745001 hb
          have n1_:=bH HO_752001 hb
          have n2_:=bH HO_760001 hb
          have n3_:=bH HO_768001 hb
          have n4_:=Am (blk_below (bB BK744.out) hb)
          have n5_:=Am (blk_below (bB BK751.out) hb)
          have n6_:=Am (blk_below (bB BK759.out) hb)
          have n7_:=Am (blk_below (bB BK767.out) hb)
          have n8_:=Am (bT (by repeat (first|(with_reducible first|exact HB.out|apply bA|apply bN|apply bD|refine bS ?_ GE744.out|refine bS ?_ GE751.out|refine bS ?_ GE759.out|refine bS ?_ GE767.out)|exact HB.out)) hb)
          clear HO_745001
          clear HO_752001
          clear HO_760001
          clear HO_768001
          clear BK744
          clear BK751
          clear BK759
          clear BK767
          clear HB
          have HO_745001:=n0_
          have HO_752001:=n1_
          have HO_760001:=n2_
          have HO_768001:=n3_
          have BK744:=n4_
          have BK751:=n5_
          have BK759:=n6_
          have BK767:=n7_
          have HB:=n8_
          clear n0_ n1_ n2_ n3_ n4_ n5_ n6_ n7_ n8_
          (try clear hb)
          (try clear hb2)
          (try clear hk)
          (try clear hi)
          refine hK.out _ _ ⟨bM BK744.out 0 rfl,bM BK744.out 1 rfl,bM BK744.out 2 rfl,bM BK744.out 3 rfl,bM BK751.out 0 rfl,bM BK751.out 1 rfl,bM BK751.out 2 rfl,bM BK751.out 3 rfl⟩ (fun hHeld=>?_)
          clear hK K
          refine norm_ (a':=?_) ?_ ?_
          rotate_left
          ·show Act.put _ (some 71) _ = _
           simp only [Act.put,lT,lZ,lS,i64_w,i32_w]
           rfl
          refine two_ (i:=3) (j:=7) (Ni:=some 72) (Nj:=some 12) #[true,true,true,true,false,false,false,false,false,false] #[true,true,true,false,false,false,false,true,false,false] rfl rfl rfl rfl (two_of HT_.out (by kernel_rfl)) (by decide) (by decide) (fun K hK=>?_) (fun K hK=>?_)
          ·skip
           refine goes_ Tryd.func13 (by kernel_rfl) rfl #[.agg #[.string t737, .slice Ao14 t738.length co14, .bool t741, .string t742], .string t772] (by rfl) rfl rfl (by (try simp only [List.map_toArray,List.map_cons,List.map_nil]);first|done|rfl|(simp only [List.length_drop,List.length_take];rfl)) ?_
           with_reducible refine (impl_AddrJoin.calls kj9 t737 _ _ t738 t741 t742 t772 t773 t774 t777 t778 true _ ?side1 ?side2 A77.out).mono ?_
           (case side1=>repeat (first|exact (Kd.R_reads' HO_745001.out).2.2|(with_reducible refine bC ?_)))
           (case side2=>exact (Kd.R_reads' HO_745001.out).2.1)
           rintro e w82 ⟨v775,rfl,ho0,hb⟩
           refine ⟨_,rfl,?_⟩
           have n0_:=Am (Kd.R_elder' (bR HO_745001.out) (Kd.R_base ho0) hb)
           have n1_:=Am (Kd.R_elder' (bR HO_752001.out) (Kd.R_base ho0) hb)
           have n2_:=Am (Kd.R_elder' (bR HO_760001.out) (Kd.R_base ho0) hb)
           have n3_:=Am (Kd.R_elder' (bR HO_768001.out) (Kd.R_base ho0) hb)
           have n4_:=Am (Kd.R_lower (Kd.R_new' (Kd.R_new' (Kd.R_new' (Kd.R_new' ho0 (Kd.R_lt (bR HO_745001.out))) (Kd.R_lt (bR HO_752001.out))) (Kd.R_lt (bR HO_760001.out))) (Kd.R_lt (bR HO_768001.out))) (bU (by repeat (first|(with_reducible first|exact HB.out|apply bA|apply bN|apply bD|refine bS ?_ GE744.out|refine bS ?_ GE751.out|refine bS ?_ GE759.out|refine bS ?_ GE767.out)|exact HB.out))))
           have n5_:=Am (blk_below (bB BK744.out) hb)
           have n6_:=Am (blk_below (bB BK751.out) hb)
           have n7_:=Am (blk_below (bB BK759.out) hb)
           have n8_:=Am (blk_below (bB BK767.out) hb)
           have n9_:=Am (bT (by repeat (first|(with_reducible first|exact HB.out|apply bA|apply bN|apply bD|refine bS ?_ GE744.out|refine bS ?_ GE751.out|refine bS ?_ GE759.out|refine bS ?_ GE767.out)|exact HB.out)) hb)
           clear HO_745001
           clear HO_752001
           clear HO_760001
           clear HO_768001
           clear BK744
           clear BK751
           clear BK759
           clear BK767
           clear HB
           have HO_745001:=n0_
           have HO_752001:=n1_
           have HO_760001:=n2_
           have HO_768001:=n3_
           have HO776:=n4_
           have BK744:=n5_
           have BK751:=n6_
           have BK759:=n7_
           have BK767:=n8_
           have HB:=n9_
           clear n0_ n1_ n2_ n3_ n4_ n5_ n6_ n7_ n8_ n9_
           (try clear hb)
           (try clear hb2)
           (try clear hk)
           (try clear hi)
           (try clear ho0)
           refine hK.out _ _ ⟨bM BK744.out 0 rfl,bM BK744.out 1 rfl,bM BK744.out 2 rfl,bM BK744.out 3 rfl,bM BK751.out 0 rfl,bM BK751.out 1 rfl,bM BK751.out 2 rfl,bM BK751.out 3 rfl⟩ (fun hHeld=>?_)
           clear hK K
           refine norm_ (a':=?_) ?_ ?_
           rotate_left
           ·show Act.put _ (some 72) _ = _
            simp only [Act.put,lT,lZ,lS,i64_w,i32_w]
            rfl
           refine pure_ (i:=4) (N:=some 68) (v:=?_) (a':=?_) #[true,true,true,true,true,false,false,false,false,false] rfl rfl (any_of HT_.out (by kernel_rfl)) (fun _ _ _ h=>h) (Or.inl ⟨by rfl,?_⟩) ?_ ?_
           rotate_left
           ·intro w'
            go_simp
            with_reducible rfl
           rotate_left
           ·simp only [Act.put,lT,lZ,lS,i64_w,i32_w]
            rfl
           refine pure_ (i:=5) (N:=some 73) (v:=?_) (a':=?_) #[true,true,true,true,true,true,false,false,false,false] rfl rfl (any_of HT_.out (by kernel_rfl)) (fun _ _ _ h=>h) (Or.inl ⟨by rfl,?_⟩) ?_ ?_
           rotate_left
           ·intro w'
            go_simp
            with_reducible rfl
           rotate_left
           ·simp only [Act.put,lT,lZ,lS,i64_w,i32_w]
            rfl
           refine pure_ (i:=6) (N:=some 74) (v:=?_) (a':=?_) #[true,true,true,true,true,true,true,false,false,false] rfl rfl (any_of HT_.out (by kernel_rfl)) (fun _ _ _ h=>h) (Or.inl ⟨by rfl,?_⟩) ?_ ?_
           rotate_left
           ·intro w'
            go_simp
            with_reducible rfl
           rotate_left
           ·simp only [Act.put,lT,lZ,lS,i64_w,i32_w]
            rfl
           refine one_ (i:=7) (N:=some 12) #[true,true,true,true,true,true,true,true,false,false] rfl rfl (one_of HT_.out (by kernel_rfl)) (by decide) (fun K hK=>?_)
           refine box_step ?hg (N:=12) ?hd (cs:=#[.string (⟨#[]⟩:ByteArray), .slice none 0 0, .bool false, .string (⟨#[]⟩:ByteArray)]) (t:=25) ?hr ?_;(case hd=>rfl);(case hg=>rfl);(case hr=>(go_simp <;> rfl))
           intro gb780 hg w83 hbox hb
           have n0_:=bH HO_745001 hb
           have n1_:=bH HO_752001 hb
           have n2_:=bH HO_760001 hb
           have n3_:=bH HO_768001 hb
           have n4_:=bH HO776 hb
           have n5_:=Am (blk_below (bB BK744.out) hb)
           have n6_:=Am (blk_below (bB BK751.out) hb)
           have n7_:=Am (blk_below (bB BK759.out) hb)
           have n8_:=Am (blk_below (bB BK767.out) hb)
           have n9_:=Am (bT (by repeat (first|(with_reducible first|exact HB.out|apply bA|apply bN|apply bD|refine bS ?_ GE744.out|refine bS ?_ GE751.out|refine bS ?_ GE759.out|refine bS ?_ GE767.out)|exact HB.out)) hb)
           have n10_:=Am (hbox)
           have n11_:=Am ((by rw [hg];exact (bU (by repeat (first|(with_reducible first|exact HB.out|apply bA|apply bN|apply bD|refine bS ?_ GE744.out|refine bS ?_ GE751.out|refine bS ?_ GE759.out|refine bS ?_ GE767.out)|exact HB.out))):w.heap.size ≤ gb780))
           have n12_:=Am ((by rw [hg];exact (bU (by repeat (first|(with_reducible first|exact HB.out|apply bA|apply bN|apply bD|refine bS ?_ GE744.out|refine bS ?_ GE751.out|refine bS ?_ GE759.out|refine bS ?_ GE767.out)|exact HB.out))):w.heap.size ≤ gb780))
           have n13_:=Am ((by rw [hg];exact Nat.ne_of_lt (blk_lt (bB BK744.out)):gb744 ≠ gb780))
           have n14_:=Am ((by rw [hg];exact Nat.ne_of_gt (blk_lt (bB BK744.out)):gb780 ≠ gb744))
           have n15_:=Am ((by rw [hg];exact Nat.ne_of_lt (blk_lt (bB BK751.out)):gb751 ≠ gb780))
           have n16_:=Am ((by rw [hg];exact Nat.ne_of_gt (blk_lt (bB BK751.out)):gb780 ≠ gb751))
           have n17_:=Am ((by rw [hg];exact Nat.ne_of_lt (blk_lt (bB BK759.out)):gb759 ≠ gb780))
           have n18_:=Am ((by rw [hg];exact Nat.ne_of_gt (blk_lt (bB BK759.out)):gb780 ≠ gb759))
           have n19_:=Am ((by rw [hg];exact Nat.ne_of_lt (blk_lt (bB BK767.out)):gb767 ≠ gb780))
           have n20_:=Am ((by rw [hg];exact Nat.ne_of_gt (blk_lt (bB BK767.out)):gb780 ≠ gb767))
           clear HO_745001
           clear HO_752001
           clear HO_760001
           clear HO_768001
           clear HO776
           clear BK744
           clear BK751
           clear BK759
           clear BK767
           clear HB
           have HO_745001:=n0_
           have HO_752001:=n1_
           have HO_760001:=n2_
           have HO_768001:=n3_
           have HO776:=n4_
           have BK744:=n5_
           have BK751:=n6_
           have BK759:=n7_
           have BK767:=n8_
           have HB:=n9_
           have BK780:=n10_
           have GW780:=n11_
           have GE780:=n12_
           have NB744_780:=n13_
           have NB780_744:=n14_
           have NB751_780:=n15_
           have NB780_751:=n16_
           have NB759_780:=n17_
           have NB780_759:=n18_
           have NB767_780:=n19_
           have NB780_767:=n20_
           clear n0_ n1_ n2_ n3_ n4_ n5_ n6_ n7_ n8_ n9_ n10_ n11_ n12_ n13_ n14_ n15_ n16_ n17_ n18_ n19_ n20_
           clear hb hbox hg
           refine hK.out _ _ ⟨bM BK744.out 0 rfl,bM BK744.out 1 rfl,bM BK744.out 2 rfl,bM BK744.out 3 rfl,bM BK751.out 0 rfl,bM BK751.out 1 rfl,bM BK751.out 2 rfl,bM BK751.out 3 rfl⟩ (fun hHeld=>?_)
           clear hK K
           refine norm_ (a':=?_) ?_ ?_
           rotate_left
           ·show Act.put _ (some 12) _ = _
            simp only [Act.put,lT,lZ,lS,i64_w,i32_w]
            rfl
           exact norm_ (by simp only [putAll,Act.put,lT,lZ,lS]) (hCont (v775,gb780) _ ⟨hHeld,(by (with_reducible repeat (first|apply rA|apply rN|apply rD));exact Kd.R_mono HO776.out (fun _ hk=>⟨hk.1.1.1.2,⟨hk.1.1.2,⟨hk.1.2,hk.2⟩⟩⟩)),(by (with_reducible repeat (first|apply rA|apply rN|apply rD));exact Kd.R_mono HO_745001.out (fun _ hk=>⟨hk.2,⟨hk.1.1,⟨hk.1.2.1,hk.1.2.2⟩⟩⟩)),(by (with_reducible repeat (first|apply rA|apply rN|apply rD));exact Kd.R_mono HO_752001.out (fun _ hk=>⟨hk.2,⟨hk.1.1,⟨hk.1.2.1,hk.1.2.2⟩⟩⟩)),(by (with_reducible repeat (first|apply rA|apply rN|apply rD));exact Kd.R_mono HO_760001.out (fun _ hk=>⟨hk.2,⟨hk.1.1,⟨hk.1.2.1,hk.1.2.2⟩⟩⟩)),(by (with_reducible repeat (first|apply rA|apply rN|apply rD));exact Kd.R_mono HO_768001.out (fun _ hk=>⟨hk.2,⟨hk.1.1,⟨hk.1.2.1,hk.1.2.2⟩⟩⟩)),(bB BK744.out),(bB BK751.out),(bB BK759.out),(bB BK767.out),(bB BK780.out),GW780.out,GE780.out,NB744_780.out,NB780_744.out,NB751_780.out,NB780_751.out,NB759_780.out,NB780_759.out,NB767_780.out,NB780_767.out,(by repeat (first|(with_reducible first|exact HB.out|apply bA|apply bN|apply bD|refine bS ?_ GE744.out|refine bS ?_ GE751.out|refine bS ?_ GE759.out|refine bS ?_ GE767.out|refine bS ?_ GE780.out)|exact HB.out))⟩)
          ·skip
           refine box_step ?hg (N:=12) ?hd (cs:=#[.string (⟨#[]⟩:ByteArray), .slice none 0 0, .bool false, .string (⟨#[]⟩:ByteArray)]) (t:=25) ?hr ?_;(case hd=>rfl);(case hg=>rfl);(case hr=>(go_simp <;> rfl))
           intro gb780 hg w82 hbox hb
           have n0_:=bH HO_745001 hb
           have n1_:=bH HO_752001 hb
           have n2_:=bH HO_760001 hb
           have n3_:=bH HO_768001 hb
           have n4_:=Am (blk_below (bB BK744.out) hb)
           have n5_:=Am (blk_below (bB BK751.out) hb)
           have n6_:=Am (blk_below (bB BK759.out) hb)
           have n7_:=Am (blk_below (bB BK767.out) hb)
           have n8_:=Am (bT (by repeat (first|(with_reducible first|exact HB.out|apply bA|apply bN|apply bD|refine bS ?_ GE744.out|refine bS ?_ GE751.out|refine bS ?_ GE759.out|refine bS ?_ GE767.out)|exact HB.out)) hb)
           have n9_:=Am (hbox)
           have n10_:=Am ((by rw [hg];exact (bU (by repeat (first|(with_reducible first|exact HB.out|apply bA|apply bN|apply bD|refine bS ?_ GE744.out|refine bS ?_ GE751.out|refine bS ?_ GE759.out|refine bS ?_ GE767.out)|exact HB.out))):w.heap.size ≤ gb780))
           have n11_:=Am ((by rw [hg];exact (bU (by repeat (first|(with_reducible first|exact HB.out|apply bA|apply bN|apply bD|refine bS ?_ GE744.out|refine bS ?_ GE751.out|refine bS ?_ GE759.out|refine bS ?_ GE767.out)|exact HB.out))):w.heap.size ≤ gb780))
           have n12_:=Am ((by rw [hg];exact Nat.ne_of_lt (blk_lt (bB BK744.out)):gb744 ≠ gb780))
           have n13_:=Am ((by rw [hg];exact Nat.ne_of_gt (blk_lt (bB BK744.out)):gb780 ≠ gb744))
           have n14_:=Am ((by rw [hg];exact Nat.ne_of_lt (blk_lt (bB BK751.out)):gb751 ≠ gb780))
           have n15_:=Am ((by rw [hg];exact Nat.ne_of_gt (blk_lt (bB BK751.out)):gb780 ≠ gb751))
           have n16_:=Am ((by rw [hg];exact Nat.ne_of_lt (blk_lt (bB BK759.out)):gb759 ≠ gb780))
           have n17_:=Am ((by rw [hg];exact Nat.ne_of_gt (blk_lt (bB BK759.out)):gb780 ≠ gb759))
           have n18_:=Am ((by rw [hg];exact Nat.ne_of_lt (blk_lt (bB BK767.out)):gb767 ≠ gb780))
           have n19_:=Am ((by rw [hg];exact Nat.ne_of_gt (blk_lt (bB BK767.out)):gb780 ≠ gb767))
           clear HO_745001
           clear HO_752001
           clear HO_760001
           clear HO_768001
           clear BK744
           clear BK751
           clear BK759
           clear BK767
           clear HB
           have HO_745001:=n0_
           have HO_752001:=n1_
           have HO_760001:=n2_
           have HO_768001:=n3_
           have BK744:=n4_
           have BK751:=n5_
           have BK759:=n6_
           have BK767:=n7_
           have HB:=n8_
           have BK780:=n9_
           have GW780:=n10_
           have GE780:=n11_
           have NB744_780:=n12_
           have NB780_744:=n13_
           have NB751_780:=n14_
           have NB780_751:=n15_
           have NB759_780:=n16_
           have NB780_759:=n17_
           have NB767_780:=n18_
           have NB780_767:=n19_
           clear n0_ n1_ n2_ n3_ n4_ n5_ n6_ n7_ n8_ n9_ n10_ n11_ n12_ n13_ n14_ n15_ n16_ n17_ n18_ n19_
           clear hb hbox hg
           refine hK.out _ _ ⟨bM BK744.out 0 rfl,bM BK744.out 1 rfl,bM BK744.out 2 rfl,bM BK744.out 3 rfl,bM BK751.out 0 rfl,bM BK751.out 1 rfl,bM BK751.out 2 rfl,bM BK751.out 3 rfl⟩ (fun hHeld=>?_)
           clear hK K
           refine norm_ (a':=?_) ?_ ?_
           rotate_left
           ·show Act.put _ (some 12) _ = _
            simp only [Act.put,lT,lZ,lS,i64_w,i32_w]
            rfl
           refine one_ (i:=3) (N:=some 72) #[true,true,true,true,false,false,false,true,false,false] rfl rfl (one_of HT_.out (by kernel_rfl)) (by decide) (fun K hK=>?_)
           refine goes_ Tryd.func13 (by kernel_rfl) rfl #[.agg #[.string t737, .slice Ao14 t738.length co14, .bool t741, .string t742], .string t772] (by rfl) rfl rfl (by (try simp only [List.map_toArray,List.map_cons,List.map_nil]);first|done|rfl|(simp only [List.length_drop,List.length_take];rfl)) ?_
           with_reducible refine (impl_AddrJoin.calls kj9 t737 _ _ t738 t741 t742 t772 t773 t774 t777 t778 true _ ?side1 ?side2 A77.out).mono ?_
           (case side1=>repeat (first|exact (Kd.R_reads' HO_745001.out).2.2|(with_reducible refine bC ?_)))
           (case side2=>exact (Kd.R_reads' HO_745001.out).2.1)
           rintro e w83 ⟨v775,rfl,ho0,hb⟩
           refine ⟨_,rfl,?_⟩
           have n0_:=Am (Kd.R_elder' (bR HO_745001.out) (Kd.R_base ho0) hb)
           have n1_:=Am (Kd.R_elder' (bR HO_752001.out) (Kd.R_base ho0) hb)
           have n2_:=Am (Kd.R_elder' (bR HO_760001.out) (Kd.R_base ho0) hb)
           have n3_:=Am (Kd.R_elder' (bR HO_768001.out) (Kd.R_base ho0) hb)
           have n4_:=Am (Kd.R_lower (Kd.R_new' (Kd.R_new' (Kd.R_new' (Kd.R_new' ho0 (Kd.R_lt (bR HO_745001.out))) (Kd.R_lt (bR HO_752001.out))) (Kd.R_lt (bR HO_760001.out))) (Kd.R_lt (bR HO_768001.out))) (bU (by repeat (first|(with_reducible first|exact HB.out|apply bA|apply bN|apply bD|refine bS ?_ GE744.out|refine bS ?_ GE751.out|refine bS ?_ GE759.out|refine bS ?_ GE767.out|refine bS ?_ GE780.out)|exact HB.out))))
           have n5_:=Am (blk_below (bB BK744.out) hb)
           have n6_:=Am (blk_below (bB BK751.out) hb)
           have n7_:=Am (blk_below (bB BK759.out) hb)
           have n8_:=Am (blk_below (bB BK767.out) hb)
           have n9_:=Am (blk_below (bB BK780.out) hb)
           have n10_:=Am (bT (by repeat (first|(with_reducible first|exact HB.out|apply bA|apply bN|apply bD|refine bS ?_ GE744.out|refine bS ?_ GE751.out|refine bS ?_ GE759.out|refine bS ?_ GE767.out|refine bS ?_ GE780.out)|exact HB.out)) hb)
           clear HO_745001
           clear HO_752001
           clear HO_760001
           clear HO_768001
           clear BK744
           clear BK751
           clear BK759
           clear BK767
           clear BK780
           clear HB
           have HO_745001:=n0_
           have HO_752001:=n1_
           have HO_760001:=n2_
           have HO_768001:=n3_
           have HO776:=n4_
           have BK744:=n5_
           have BK751:=n6_
           have BK759:=n7_
           have BK767:=n8_
           have BK780:=n9_
           have HB:=n10_
           clear n0_ n1_ n2_ n3_ n4_ n5_ n6_ n7_ n8_ n9_ n10_
           (try clear hb)
           (try clear hb2)
           (try clear hk)
           (try clear hi)
           (try clear ho0)
           refine hK.out _ _ ⟨bM BK744.out 0 rfl,bM BK744.out 1 rfl,bM BK744.out 2 rfl,bM BK744.out 3 rfl,bM BK751.out 0 rfl,bM BK751.out 1 rfl,bM BK751.out 2 rfl,bM BK751.out 3 rfl⟩ (fun hHeld=>?_)
           clear hK K
           refine norm_ (a':=?_) ?_ ?_
           rotate_left
           ·show Act.put _ (some 72) _ = _
            simp only [Act.put,lT,lZ,lS,i64_w,i32_w]
            rfl
           refine pure_ (i:=4) (N:=some 68) (v:=?_) (a':=?_) #[true,true,true,true,true,false,false,true,false,false] rfl rfl (any_of HT_.out (by kernel_rfl)) (fun _ _ _ h=>h) (Or.inl ⟨by rfl,?_⟩) ?_ ?_
           rotate_left
           ·intro w'
            go_simp
            with_reducible rfl
           rotate_left
           ·simp only [Act.put,lT,lZ,lS,i64_w,i32_w]
            rfl
           refine pure_ (i:=5) (N:=some 73) (v:=?_) (a':=?_) #[true,true,true,true,true,true,false,true,false,false] rfl rfl (any_of HT_.out (by kernel_rfl)) (fun _ _ _ h=>h) (Or.inl ⟨by rfl,?_⟩) ?_ ?_
           rotate_left
           ·intro w'
            go_simp
            with_reducible rfl
           rotate_left
           ·simp only [Act.put,lT,lZ,lS,i64_w,i32_w]
            rfl
           refine pure_ (i:=6) (N:=some 74) (v:=?_) (a':=?_) #[true,true,true,true,true,true,true,true,false,false] rfl rfl (any_of HT_.out (by kernel_rfl)) (fun _ _ _ h=>h) (Or.inl ⟨by rfl,?_⟩) ?_ ?_
           rotate_left
           ·intro w'
            go_simp
            with_reducible rfl
           rotate_left
           ·simp only [Act.put,lT,lZ,lS,i64_w,i32_w]
            rfl
           exact norm_ (by simp only [putAll,Act.put,lT,lZ,lS]) (hCont (v775,gb780) _ ⟨hHeld,(by (with_reducible repeat (first|apply rA|apply rN|apply rD));exact Kd.R_mono HO776.out (fun _ hk=>⟨hk.1.1.1.2,⟨hk.1.1.2,⟨hk.1.2,hk.2⟩⟩⟩)),(by (with_reducible repeat (first|apply rA|apply rN|apply rD));exact Kd.R_mono HO_745001.out (fun _ hk=>⟨hk.2,⟨hk.1.1,⟨hk.1.2.1,hk.1.2.2⟩⟩⟩)),(by (with_reducible repeat (first|apply rA|apply rN|apply rD));exact Kd.R_mono HO_752001.out (fun _ hk=>⟨hk.2,⟨hk.1.1,⟨hk.1.2.1,hk.1.2.2⟩⟩⟩)),(by (with_reducible repeat (first|apply rA|apply rN|apply rD));exact Kd.R_mono HO_760001.out (fun _ hk=>⟨hk.2,⟨hk.1.1,⟨hk.1.2.1,hk.1.2.2⟩⟩⟩)),(by (with_reducible repeat (first|apply rA|apply rN|apply rD));exact Kd.R_mono HO_768001.out (fun _ hk=>⟨hk.2,⟨hk.1.1,⟨hk.1.2.1,hk.1.2.2⟩⟩⟩)),(bB BK744.out),(bB BK751.out),(bB BK759.out),(bB BK767.out),(bB BK780.out),GW780.out,GE780.out,NB744_780.out,NB780_744.out,NB751_780.out,NB780_751.out,NB759_780.out,NB780_759.out,NB767_780.out,NB780_767.out,(by repeat (first|(with_reducible first|exact HB.out|apply bA|apply bN|apply bD|refine bS ?_ GE744.out|refine bS ?_ GE751.out|refine bS ?_ GE759.out|refine bS ?_ GE767.out|refine bS ?_ GE780.out)|exact HB.out))⟩)
         ·skip
          refine box_step ?hg (N:=12) ?hd (cs:=#[.string (⟨#[]⟩:ByteArray), .slice none 0 0, .bool false, .string (⟨#[]⟩:ByteArray)]) (t:=25) ?hr ?_;(case hd=>rfl);(case hg=>rfl);(case hr=>(go_simp <;> rfl))
          intro gb780 hg w81 hbox hb
          have n0_:=bH HO_745001 hb
          have n1_:=bH HO_752001 hb
          have n2_:=bH HO_760001 hb
          have n3_:=bH HO_768001 hb
          have n4_:=Am (blk_below (bB BK744.out) hb)
          have n5_:=Am (blk_below (bB BK751.out) hb)
          have n6_:=Am (blk_below (bB BK759.out) hb)
          have n7_:=Am (blk_below (bB BK767.out) hb)
          have n8_:=Am (bT (by repeat (first|(with_reducible first|exact HB.out|apply bA|apply bN|apply bD|refine bS ?_ GE744.out|refine bS ?_ GE751.out|refine bS ?_ GE759.out|refine bS ?_ GE767.out)|exact HB.out)) hb)
          have n9_:=Am (hbox)
          have n10_:=Am ((by rw [hg];exact (bU (by repeat (first|(with_reducible first|exact HB.out|apply bA|apply bN|apply bD|refine bS ?_ GE744.out|refine bS ?_ GE751.out|refine bS ?_ GE759.out|refine bS ?_ GE767.out)|exact HB.out))):w.heap.size ≤ gb780))
          have n11_:=Am ((by rw [hg];exact (bU (by repeat (first|(with_reducible first|exact HB.out|apply bA|apply bN|apply bD|refine bS ?_ GE744.out|refine bS ?_ GE751.out|refine bS ?_ GE759.out|refine bS ?_ GE767.out)|exact HB.out))):w.heap.size ≤ gb780))
          have n12_:=Am ((by rw [hg];exact Nat.ne_of_lt (blk_lt (bB BK744.out)):gb744 ≠ gb780))
          have n13_:=Am ((by rw [hg];exact Nat.ne_of_gt (blk_lt (bB BK744.out)):gb780 ≠ gb744))
          have n14_:=Am ((by rw [hg];exact Nat.ne_of_lt (blk_lt (bB BK751.out)):gb751 ≠ gb780))
          have n15_:=Am ((by rw [hg];exact Nat.ne_of_gt (blk_lt (bB BK751.out)):gb780 ≠ gb751))
          have n16_:=Am ((by rw [hg];exact Nat.ne_of_lt (blk_lt (bB BK759.out)):gb759 ≠ gb780))
          have n17_:=Am ((by rw [hg];exact Nat.ne_of_gt (blk_lt (bB BK759.out)):gb780 ≠ gb759))
          have n18_:=Am ((by rw [hg];exact Nat.ne_of_lt (blk_lt (bB BK767.out)):gb767 ≠ gb780))
          have n19_:=Am ((by rw [hg];exact Nat.ne_of_gt (blk_lt (bB BK767.out)):gb780 ≠ gb767))
          clear HO_745001
          clear HO_752001
          clear HO_760001
          clear HO_768001
          clear BK744
          clear BK751
          clear BK759
          clear BK767
          clear HB
          have HO_745001:=n0_
          have HO_752001:=n1_
          have HO_760001:=n2_
          have HO_768001:=n3_
          have BK744:=n4_
          have BK751:=n5_
          have BK759:=n6_
          have BK767:=n7_
          have HB:=n8_
          have BK780:=n9_
          have GW780:=n10_
          have GE780:=n11_
          have NB744_780:=n12_
          have NB780_744:=n13_
          have NB751_780:=n14_
          have NB780_751:=n15_
          have NB759_780:=n16_
          have NB780_759:=n17_
          have NB767_780:=n18_
          have NB780_767:=n19_
          clear n0_ n1_ n2_ n3_ n4_ n5_ n6_ n7_ n8_ n9_ n10_ n11_ n12_ n13_ n14_ n15_ n16_ n17_ n18_ n19_
          clear hb hbox hg
          refine hK.out _ _ ⟨bM BK744.out 0 rfl,bM BK744.out 1 rfl,bM BK744.out 2 rfl,bM BK744.out 3 rfl,bM BK751.out 0 rfl,bM BK751.out 1 rfl,bM BK751.out 2 rfl,bM BK751.out 3 rfl⟩ (fun hHeld=>?_)
          clear hK K
          refine norm_ (a':=?_) ?_ ?_
          rotate_left
          ·show Act.put _ (some 12) _ = _
           simp only [Act.put,lT,lZ,lS,i64_w,i32_w]
           rfl
          refine one_ (i:=2) (N:=some 71) #[true,true,true,false,false,false,false,true,false,false] rfl rfl (one_of HT_.out (by kernel_rfl)) (by decide) (fun K hK=>?_)
          refine goes_ Tryd.func18 (by kernel_rfl) rfl #[.agg #[.string t745, .slice Ao19 t746.length co19, .bool t749, .string t750]] (by rfl) rfl rfl (by (try simp only [List.map_toArray,List.map_cons,List.map_nil]);first|done|rfl|(simp only [List.length_drop,List.length_take];rfl)) ?_
          with_reducible refine (impl_AddrText.calls kj9 t745 _ _ t746 t749 t750 t772 _ ?side1 ?side2 A76.out).mono ?_
          (case side1=>repeat (first|exact (Kd.R_reads' HO_752001.out).2.2|(with_reducible refine bC ?_)))
          (case side2=>exact (Kd.R_reads' HO_752001.out).2.1)
          rintro e w82 ⟨rfl,hb⟩
          refine ⟨_,rfl,?_⟩
          have n0_:=bH HO_745001 hb
          have n1_:=bH HO_752001 hb
          have n2_:=bH HO_760001 hb
          have n3_:=bH HO_768001 hb
          have n4_:=Am (blk_below (bB BK744.out) hb)
          have n5_:=Am (blk_below (bB BK751.out) hb)
          have n6_:=Am (blk_below (bB BK759.out) hb)
          have n7_:=Am (blk_below (bB BK767.out) hb)
          have n8_:=Am (blk_below (bB BK780.out) hb)
          have n9_:=Am (bT (by repeat (first|(with_reducible first|exact HB.out|apply bA|apply bN|apply bD|refine bS ?_ GE744.out|refine bS ?_ GE751.out|refine bS ?_ GE759.out|refine bS ?_ GE767.out|refine bS ?_ GE780.out)|exact HB.out)) hb)
          clear HO_745001
          clear HO_752001
          clear HO_760001
          clear HO_768001
          clear BK744
          clear BK751
          clear BK759
          clear BK767
          clear BK780
          clear HB
          have HO_745001:=n0_
          have HO_752001:=n1_
          have HO_760001:=n2_
          have HO_768001:=n3_
          have BK744:=n4_
          have BK751:=n5_
          have BK759:=n6_
          have BK767:=n7_
          have BK780:=n8_
          have HB:=n9_
          clear n0_ n1_ n2_ n3_ n4_ n5_ n6_ n7_ n8_ n9_
          (try clear hb)
          (try clear hb2)
          (try clear hk)
          (try clear hi)
          refine hK.out _ _ ⟨bM BK744.out 0 rfl,bM BK744.out 1 rfl,bM BK744.out 2 rfl,bM BK744.out 3 rfl,bM BK751.out 0 rfl,bM BK751.out 1 rfl,bM BK751.out 2 rfl,bM BK751.out 3 rfl⟩ (fun hHeld=>?_)
          clear hK K
          refine norm_ (a':=?_) ?_ ?_
          rotate_left
          ·show Act.put _ (some 71) _ = _
           simp only [Act.put,lT,lZ,lS,i64_w,i32_w]
           rfl
          refine one_ (i:=3) (N:=some 72) #[true,true,true,true,false,false,false,true,false,false] rfl rfl (one_of HT_.out (by kernel_rfl)) (by decide) (fun K hK=>?_)
          refine goes_ Tryd.func13 (by kernel_rfl) rfl #[.agg #[.string t737, .slice Ao14 t738.length co14, .bool t741, .string t742], .string t772] (by rfl) rfl rfl (by (try simp only [List.map_toArray,List.map_cons,List.map_nil]);first|done|rfl|(simp only [List.length_drop,List.length_take];rfl)) ?_
          with_reducible refine (impl_AddrJoin.calls kj9 t737 _ _ t738 t741 t742 t772 t773 t774 t777 t778 true _ ?side1 ?side2 A77.out).mono ?_
          (case side1=>repeat (first|exact (Kd.R_reads' HO_745001.out).2.2|(with_reducible refine bC ?_)))
          (case side2=>exact (Kd.R_reads' HO_745001.out).2.1)
          rintro e w83 ⟨v775,rfl,ho0,hb⟩
          refine ⟨_,rfl,?_⟩
          have n0_:=Am (Kd.R_elder' (bR HO_745001.out) (Kd.R_base ho0) hb)
          have n1_:=Am (Kd.R_elder' (bR HO_752001.out) (Kd.R_base ho0) hb)
          have n2_:=Am (Kd.R_elder' (bR HO_760001.out) (Kd.R_base ho0) hb)
          have n3_:=Am (Kd.R_elder' (bR HO_768001.out) (Kd.R_base ho0) hb)
          have n4_:=Am (Kd.R_lower (Kd.R_new' (Kd.R_new' (Kd.R_new' (Kd.R_new' ho0 (Kd.R_lt (bR HO_745001.out))) (Kd.R_lt (bR HO_752001.out))) (Kd.R_lt (bR HO_760001.out))) (Kd.R_lt (bR HO_768001.out))) (bU (by repeat (first|(with_reducible first|exact HB.out|apply bA|apply bN|apply bD|refine bS ?_ GE744.out|refine bS ?_ GE751.out|refine bS ?_ GE759.out|refine bS ?_ GE767.out|refine bS ?_ GE780.out)|exact HB.out))))
          have n5_:=Am (blk_below (bB BK744.out) hb)
          have n6_:=Am (blk_below (bB BK751.out) hb)
          have n7_:=Am (blk_below (bB BK759.out) hb)
          have n8_:=Am (blk_below (bB BK767.out) hb)
          have n9_:=Am (blk_below (bB BK780.out) hb)
          have n10_:=Am (bT (by repeat (first|(with_reducible first|exact HB.out|apply bA|apply bN|apply bD|refine bS ?_ GE744.out|refine bS ?_ GE751.out|refine bS ?_ GE759.out|refine bS ?_ GE767.out|refine bS ?_ GE780.out)|exact HB.out)) hb)
          clear HO_745001
          clear HO_752001
          clear HO_760001
          clear HO_768001
          clear BK744
          clear BK751
          clear BK759
          clear BK767
          clear BK780
          clear HB
          have HO_745001:=n0_
          have HO_752001:=n1_
          have HO_760001:=n2_
          have HO_768001:=n3_
          have HO776:=n4_
          have BK744:=n5_
          have BK751:=n6_
          have BK759:=n7_
          have BK767:=n8_
          have BK780:=n9_
          have HB:=n10_
          clear n0_ n1_ n2_ n3_ n4_ n5_ n6_ n7_ n8_ n9_ n10_
          (try clear hb)
          (try clear hb2)
          (try clear hk)
          (try clear hi)
          (try clear ho0)
          refine hK.out _ _ ⟨bM BK744.out 0 rfl,bM BK744.out 1 rfl,bM BK744.out 2 rfl,bM BK744.out 3 rfl,bM BK751.out 0 rfl,bM BK751.out 1 rfl,bM BK751.out 2 rfl,bM BK751.out 3 rfl⟩ (fun hHeld=>?_)
          clear hK K
          refine norm_ (a':=?_) ?_ ?_
          rotate_left
          ·show Act.put _ (some 72) _ = _
           simp only [Act.put,lT,lZ,lS,i64_w,i32_w]
           rfl
          refine pure_ (i:=4) (N:=some 68) (v:=?_) (a':=?_) #[true,true,true,true,true,false,false,true,false,false] rfl rfl (any_of HT_.out (by kernel_rfl)) (fun _ _ _ h=>h) (Or.inl ⟨by rfl,?_⟩) ?_ ?_
          rotate_left
          ·intro w'
           go_simp
           with_reducible rfl
          rotate_left
          ·simp only [Act.put,lT,lZ,lS,i64_w,i32_w]
           rfl
          refine pure_ (i:=5) (N:=some 73) (v:=?_) (a':=?_) #[true,true,true,true,true,true,false,true,false,false] rfl rfl (any_of HT_.out (by kernel_rfl)) (fun _ _ _ h=>h) (Or.inl ⟨by rfl,?_⟩) ?_ ?_
          rotate_left
          ·intro w'
           go_simp
           with_reducible rfl
          rotate_left
          ·simp only [Act.put,lT,lZ,lS,i64_w,i32_w]
           rfl
          refine pure_ (i:=6) (N:=some 74) (v:=?_) (a':=?_) #[true,true,true,true,true,true,true,true,false,false] rfl rfl (any_of HT_.out (by kernel_rfl)) (fun _ _ _ h=>h) (Or.inl ⟨by rfl,?_⟩) ?_ ?_
          rotate_left
          ·intro w'
           go_simp
           with_reducible rfl
          rotate_left
          ·simp only [Act.put,lT,lZ,lS,i64_w,i32_w]
           rfl
          exact norm_ (by simp only [putAll,Act.put,lT,lZ,lS]) (hCont (v775,gb780) _ ⟨hHeld,(by (with_reducible repeat (first|apply rA|apply rN|apply rD));exact Kd.R_mono HO776.out (fun _ hk=>⟨hk.1.1.1.2,⟨hk.1.1.2,⟨hk.1.2,hk.2⟩⟩⟩)),(by (with_reducible repeat (first|apply rA|apply rN|apply rD));exact Kd.R_mono HO_745001.out (fun _ hk=>⟨hk.2,⟨hk.1.1,⟨hk.1.2.1,hk.1.2.2⟩⟩⟩)),(by (with_reducible repeat (first|apply rA|apply rN|apply rD));exact Kd.R_mono HO_752001.out (fun _ hk=>⟨hk.2,⟨hk.1.1,⟨hk.1.2.1,hk.1.2.2⟩⟩⟩)),(by (with_reducible repeat (first|apply rA|apply rN|apply rD));exact Kd.R_mono HO_760001.out (fun _ hk=>⟨hk.2,⟨hk.1.1,⟨hk.1.2.1,hk.1.2.2⟩⟩⟩)),(by (with_reducible repeat (first|apply rA|apply rN|apply rD));exact Kd.R_mono HO_768001.out (fun _ hk=>⟨hk.2,⟨hk.1.1,⟨hk.1.2.1,hk.1.2.2⟩⟩⟩)),(bB BK744.out),(bB BK751.out),(bB BK759.out),(bB BK767.out),(bB BK780.out),GW780.out,GE780.out,NB744_780.out,NB780_744.out,NB751_780.out,NB780_751.out,NB759_780.out,NB780_759.out,NB767_780.out,NB780_767.out,(by repeat (first|(with_reducible first|exact HB.out|apply bA|apply bN|apply bD|refine bS ?_ GE744.out|refine bS ?_ GE751.out|refine bS ?_ GE759.out|refine bS ?_ GE767.out|refine bS ?_ GE780.out)|exact HB.out))⟩)
        rintro ⟨v775,gb780⟩ w84 ⟨hS_,h0_,h1_,h2_,h3_,h4_,h5_,h6_,h7_,h8_,h9_,h10_,h11_,h12_,h13_,h14_,h15_,h16_,h17_,h18_,h19_,h20_⟩
        have n0_:Aside0 (Kd.R Kd.string 9 w84 w.heap.size (fun k_=>some k_ ≠ (.slice Ao14 t738.length co14:Value).ownBlock ∧ some k_ ≠ (.slice Ao19 t746.length co19:Value).ownBlock ∧ some k_ ≠ (.slice Ao26 t753.length co26:Value).ownBlock ∧ some k_ ≠ (.slice Ao34 t761.length co34:Value).ownBlock) v775 t774):=⟨h0_⟩
        have n1_:Aside0 (Kd.R Kd.string 9 w84 w.heap.size (fun k_=>some k_ ≠ (v775:Value).ownBlock ∧ some k_ ≠ (.slice Ao19 t746.length co19:Value).ownBlock ∧ some k_ ≠ (.slice Ao26 t753.length co26:Value).ownBlock ∧ some k_ ≠ (.slice Ao34 t761.length co34:Value).ownBlock) (.slice Ao14 t738.length co14) t738):=⟨h1_⟩
        have n2_:Aside0 (Kd.R Kd.string 9 w84 w.heap.size (fun k_=>some k_ ≠ (v775:Value).ownBlock ∧ some k_ ≠ (.slice Ao14 t738.length co14:Value).ownBlock ∧ some k_ ≠ (.slice Ao26 t753.length co26:Value).ownBlock ∧ some k_ ≠ (.slice Ao34 t761.length co34:Value).ownBlock) (.slice Ao19 t746.length co19) t746):=⟨h2_⟩
        have n3_:Aside0 (Kd.R Kd.string 9 w84 w.heap.size (fun k_=>some k_ ≠ (v775:Value).ownBlock ∧ some k_ ≠ (.slice Ao14 t738.length co14:Value).ownBlock ∧ some k_ ≠ (.slice Ao19 t746.length co19:Value).ownBlock ∧ some k_ ≠ (.slice Ao34 t761.length co34:Value).ownBlock) (.slice Ao26 t753.length co26) t753):=⟨h3_⟩
        have n4_:Aside0 (Kd.R Kd.string 9 w84 w.heap.size (fun k_=>some k_ ≠ (v775:Value).ownBlock ∧ some k_ ≠ (.slice Ao14 t738.length co14:Value).ownBlock ∧ some k_ ≠ (.slice Ao19 t746.length co19:Value).ownBlock ∧ some k_ ≠ (.slice Ao26 t753.length co26:Value).ownBlock) (.slice Ao34 t761.length co34) t761):=⟨h4_⟩
        have n5_:Aside0 (w84.heap[gb744]? = some (.cells #[.string t737, .slice Ao14 t738.length co14, .bool t741, .string t742] 25 (0,0))):=⟨h5_⟩
        have n6_:Aside0 (w84.heap[gb751]? = some (.cells #[.string t745, .slice Ao19 t746.length co19, .bool t749, .string t750] 25 (0,0))):=⟨h6_⟩
        have n7_:Aside0 (w84.heap[gb759]? = some (.cells #[.string t752, .slice Ao26 t753.length co26, .bool t756, .string t757] 25 (0,0))):=⟨h7_⟩
        have n8_:Aside0 (w84.heap[gb767]? = some (.cells #[.string t760, .slice Ao34 t761.length co34, .bool t764, .string t765] 25 (0,0))):=⟨h8_⟩
        have n9_:Aside0 (w84.heap[gb780]? = some (.cells #[.string (⟨#[]⟩:ByteArray), .slice none 0 0, .bool false, .string (⟨#[]⟩:ByteArray)] 25 (0,0))):=⟨h9_⟩
        have n10_:Aside0 (w.heap.size ≤ gb780):=⟨h10_⟩
        have n11_:Aside0 (w.heap.size ≤ gb780):=⟨h11_⟩
        have n12_:Aside0 (gb744 ≠ gb780):=⟨h12_⟩
        have n13_:Aside0 (gb780 ≠ gb744):=⟨h13_⟩
        have n14_:Aside0 (gb751 ≠ gb780):=⟨h14_⟩
        have n15_:Aside0 (gb780 ≠ gb751):=⟨h15_⟩
        have n16_:Aside0 (gb759 ≠ gb780):=⟨h16_⟩
        have n17_:Aside0 (gb780 ≠ gb759):=⟨h17_⟩
        have n18_:Aside0 (gb767 ≠ gb780):=⟨h18_⟩
        have n19_:Aside0 (gb780 ≠ gb767):=⟨h19_⟩
        have n20_:Aside0 (Below w.heap.size w w84):=⟨h20_⟩
        clear HO_745001
        clear HO_752001
        clear HO_760001
        clear HO_768001
        clear BK744
        clear BK751
        clear BK759
        clear BK767
        clear HB
        clear h0_ h1_ h2_ h3_ h4_ h5_ h6_ h7_ h8_ h9_ h10_ h11_ h12_ h13_ h14_ h15_ h16_ h17_ h18_ h19_ h20_
        have HO776:=n0_
        have HO_745001:=n1_
        have HO_752001:=n2_
        have HO_760001:=n3_
        have HO_768001:=n4_
        have BK744:=n5_
        have BK751:=n6_
        have BK759:=n7_
        have BK767:=n8_
        have BK780:=n9_
        have GW780:=n10_
        have GE780:=n11_
        have NB744_780:=n12_
        have NB780_744:=n13_
        have NB751_780:=n14_
        have NB780_751:=n15_
        have NB759_780:=n16_
        have NB780_759:=n17_
        have NB767_780:=n18_
        have NB780_767:=n19_
        have HB:=n20_
        clear n0_ n1_ n2_ n3_ n4_ n5_ n6_ n7_ n8_ n9_ n10_ n11_ n12_ n13_ n14_ n15_ n16_ n17_ n18_ n19_ n20_
        have hHeld:w84.cell? ⟨gb744,0,none⟩ = some (.string t737) ∧ w84.cell? ⟨gb744,1,none⟩ = some (.slice Ao14 t738.length co14) ∧ w84.cell? ⟨gb744,2,none⟩ = some (.bool t741) ∧ w84.cell? ⟨gb744,3,none⟩ = some (.string t742) ∧ w84.cell? ⟨gb751,0,none⟩ = some (.string t745) ∧ w84.cell? ⟨gb751,1,none⟩ = some (.slice Ao19 t746.length co19) ∧ w84.cell? ⟨gb751,2,none⟩ = some (.bool t749) ∧ w84.cell? ⟨gb751,3,none⟩ = some (.string t750):=hS_
        obtain ⟨Ao86,co86,eo86⟩:=Kd.R_slice HO776.out
        (first|subst eo86|(injection eo86 with f1_ f2_ f3_;have f4_:=f1_.symm;have f5_:=f3_.symm;clear f1_ f2_ f3_;subst f4_;subst f5_))
        refine norm_ (a':=?_) ?_ ?_
        rotate_left
        ·simp only [putAll,Act.put,lT,lZ,lS]
         rfl
        refine one_ (i:=8) (N:=none) #[true,true,true,true,true,true,true,true,true,false] rfl rfl (one_of HT_.out (by kernel_rfl)) (by decide) (fun K hK=>?_)
        have hs85:w84.cell? ⟨gb780,0,none⟩ = some (.string (⟨#[]⟩:ByteArray)):=bM BK780.out 0 rfl
        have hfs85:=bZ BK780.out 0
        have hns85_0:=NB744_780.out
        have hns85_1:=NB751_780.out
        have hns85_2:=NB759_780.out
        have hns85_3:=NB767_780.out
        have hms85_0:=NB780_744.out
        have hms85_1:=NB780_751.out
        have hms85_2:=NB780_759.out
        have hms85_3:=NB780_767.out
        have hs87:w84.cell? ⟨gb780,1,none⟩ = some (.slice none 0 0):=bM BK780.out 1 rfl
        have hfs87:=bZ BK780.out 1
        have hns87_0:=NB744_780.out
        have hns87_1:=NB751_780.out
        have hns87_2:=NB759_780.out
        have hns87_3:=NB767_780.out
        have hms87_0:=NB780_744.out
        have hms87_1:=NB780_751.out
        have hms87_2:=NB780_759.out
        have hms87_3:=NB780_767.out
        have hs88:w84.cell? ⟨gb780,2,none⟩ = some (.bool false):=bM BK780.out 2 rfl
        have hfs88:=bZ BK780.out 2
        have hns88_0:=NB744_780.out
        have hns88_1:=NB751_780.out
        have hns88_2:=NB759_780.out
        have hns88_3:=NB767_780.out
        have hms88_0:=NB780_744.out
        have hms88_1:=NB780_751.out
        have hms88_2:=NB780_759.out
        have hms88_3:=NB780_767.out
        have hs89:w84.cell? ⟨gb780,3,none⟩ = some (.string (⟨#[]⟩:ByteArray)):=bM BK780.out 3 rfl
        have hfs89:=bZ BK780.out 3
        have hns89_0:=NB744_780.out
        have hns89_1:=NB751_780.out
        have hns89_2:=NB759_780.out
        have hns89_3:=NB767_780.out
        have hms89_0:=NB780_744.out
        have hms89_1:=NB780_751.out
        have hms89_2:=NB780_759.out
        have hms89_3:=NB780_767.out
        refine skip_ (w1:=?_) (by rfl) rfl ?_ ?_
        rotate_left
        ·go_simp
         rfl
        refine hK.out _ _ ⟨((cell_far (p:=⟨gb780,_,none⟩) NB744_780.out _).trans (((cell_far (p:=⟨gb780,_,none⟩) NB744_780.out _).trans (((cell_far (p:=⟨gb780,_,none⟩) NB744_780.out _).trans (((cell_far (p:=⟨gb780,_,none⟩) NB744_780.out _).trans (hHeld.1)))))))),((cell_far (p:=⟨gb780,_,none⟩) NB744_780.out _).trans (((cell_far (p:=⟨gb780,_,none⟩) NB744_780.out _).trans (((cell_far (p:=⟨gb780,_,none⟩) NB744_780.out _).trans (((cell_far (p:=⟨gb780,_,none⟩) NB744_780.out _).trans (hHeld.2.1)))))))),((cell_far (p:=⟨gb780,_,none⟩) NB744_780.out _).trans (((cell_far (p:=⟨gb780,_,none⟩) NB744_780.out _).trans (((cell_far (p:=⟨gb780,_,none⟩) NB744_780.out _).trans (((cell_far (p:=⟨gb780,_,none⟩) NB744_780.out _).trans (hHeld.2.2.1)))))))),((cell_far (p:=⟨gb780,_,none⟩) NB744_780.out _).trans (((cell_far (p:=⟨gb780,_,none⟩) NB744_780.out _).trans (((cell_far (p:=⟨gb780,_,none⟩) NB744_780.out _).trans (((cell_far (p:=⟨gb780,_,none⟩) NB744_780.out _).trans (hHeld.2.2.2.1)))))))),((cell_far (p:=⟨gb780,_,none⟩) NB751_780.out _).trans (((cell_far (p:=⟨gb780,_,none⟩) NB751_780.out _).trans (((cell_far (p:=⟨gb780,_,none⟩) NB751_780.out _).trans (((cell_far (p:=⟨gb780,_,none⟩) NB751_780.out _).trans (hHeld.2.2.2.2.1)))))))),((cell_far (p:=⟨gb780,_,none⟩) NB751_780.out _).trans (((cell_far (p:=⟨gb780,_,none⟩) NB751_780.out _).trans (((cell_far (p:=⟨gb780,_,none⟩) NB751_780.out _).trans (((cell_far (p:=⟨gb780,_,none⟩) NB751_780.out _).trans (hHeld.2.2.2.2.2.1)))))))),((cell_far (p:=⟨gb780,_,none⟩) NB751_780.out _).trans (((cell_far (p:=⟨gb780,_,none⟩) NB751_780.out _).trans (((cell_far (p:=⟨gb780,_,none⟩) NB751_780.out _).trans (((cell_far (p:=⟨gb780,_,none⟩) NB751_780.out _).trans (hHeld.2.2.2.2.2.2.1)))))))),((cell_far (p:=⟨gb780,_,none⟩) NB751_780.out _).trans (((cell_far (p:=⟨gb780,_,none⟩) NB751_780.out _).trans (((cell_far (p:=⟨gb780,_,none⟩) NB751_780.out _).trans (((cell_far (p:=⟨gb780,_,none⟩) NB751_780.out _).trans (hHeld.2.2.2.2.2.2.2))))))))⟩ (fun hHeld=>?_)
        clear hK K
        refine pure_ (i:=9) (N:=some 13) (v:=?_) (a':=?_) #[true,true,true,true,true,true,true,true,true,true] rfl rfl (any_of HT_.out (by kernel_rfl)) (fun _ _ _ h=>h) (Or.inl ⟨by rfl,?_⟩) ?_ ?_
        rotate_left
        ·intro w'
         go_simp
         with_reducible rfl
        rotate_left
        ·simp only [Act.put,lT,lZ,lS,i64_w,i32_w]
         rfl
        refine done_ (done_of HT_.out (by kernel_rfl)) ?_
        have hnb90:=NB780_744.out
        have hnc90:=NB744_780.out
        have hnb91:=NB780_751.out
        have hnc91:=NB751_780.out
        have hnb92:=NB780_759.out
        have hnc92:=NB759_780.out
        have hnb93:=NB780_767.out
        have hnc93:=NB767_780.out
        obtain ⟨hcz94_0,hcz94_1,hcz94_2,hcz94_3,hfz94_0,hfz94_1,hfz94_2,hfz94_3⟩:=bX BK780.out







        have hnb95:=NB751_744.out
        have hnc95:=NB744_751.out
        have hnb96:=NB751_759.out
        have hnc96:=NB759_751.out
        have hnb97:=NB751_767.out
        have hnc97:=NB767_751.out
        obtain ⟨hcz98_0,hcz98_1,hcz98_2,hcz98_3,hfz98_0,hfz98_1,hfz98_2,hfz98_3⟩:=bX BK751.out







        try go_wp2_with (first|(go_at_call 14;(with_reducible refine (laws_lpAddr.calls kj9 t773 _ _ t774 t777 t778 t745 _ _ t746 t749 t750 t781 _ ?side1 ?side2 ?side3 ?side4 A79.out).mono ?_);(case side1=>refine (Kd.R_reads' (e:=9) (base:=w.heap.size) (ok:=fun k_=>(some k_ ≠ (.slice Ao14 t738.length co14:Value).ownBlock ∧ (some k_ ≠ (.slice Ao19 t746.length co19:Value).ownBlock ∧ (some k_ ≠ (.slice Ao26 t753.length co26:Value).ownBlock ∧ some k_ ≠ (.slice Ao34 t761.length co34:Value).ownBlock)))) (n:=t774.length) (c:=co86) ?_).2.2;exact (by (with_reducible repeat (first|apply rA|apply rN|apply rD));exact (bQ HO776.out BK780.out (by decide) _ _ _ _)));(case side2=>exact (Kd.R_reads' HO776.out).2.1);(case side3=>refine (Kd.R_reads' (e:=9) (base:=w.heap.size) (ok:=fun k_=>(some k_ ≠ (.slice Ao86 t774.length co86:Value).ownBlock ∧ (some k_ ≠ (.slice Ao14 t738.length co14:Value).ownBlock ∧ (some k_ ≠ (.slice Ao26 t753.length co26:Value).ownBlock ∧ some k_ ≠ (.slice Ao34 t761.length co34:Value).ownBlock)))) (n:=t746.length) (c:=co19) ?_).2.2;exact (by (with_reducible repeat (first|apply rA|apply rN|apply rD));exact (bQ HO_752001.out BK780.out (by decide) _ _ _ _)));(case side4=>exact (Kd.R_reads' HO_752001.out).2.1);rintro e w99 ⟨rfl,hb⟩;have n0_:=Am (Kd.R_below (by (with_reducible repeat (first|apply rA|apply rN|apply rD));exact (bQ HO_745001.out BK780.out (by decide) _ _ _ _)) hb);have n1_:=Am (Kd.R_below (by (with_reducible repeat (first|apply rA|apply rN|apply rD));exact (bQ HO_752001.out BK780.out (by decide) _ _ _ _)) hb);have n2_:=Am (Kd.R_below (by (with_reducible repeat (first|apply rA|apply rN|apply rD));exact (bQ HO_760001.out BK780.out (by decide) _ _ _ _)) hb);have n3_:=Am (Kd.R_below (by (with_reducible repeat (first|apply rA|apply rN|apply rD));exact (bQ HO_768001.out BK780.out (by decide) _ _ _ _)) hb);have n4_:=Am (Kd.R_below (by (with_reducible repeat (first|apply rA|apply rN|apply rD));exact (bQ HO776.out BK780.out (by decide) _ _ _ _)) hb);have n5_:=Am (blk_below (g:=gb744) (o:=.cells #[.string t737, .slice Ao14 t738.length co14, .bool t741, .string t742] 25 (0,0)) (by refine bB ?_;refine bF ?_ NB744_780.out;refine bB ?_;exact BK744.out) hb);have n6_:=Am (blk_below (g:=gb751) (o:=.cells #[.string t745, .slice Ao19 t746.length co19, .bool t749, .string t750] 25 (0,0)) (by refine bB ?_;refine bF ?_ NB751_780.out;refine bB ?_;exact BK751.out) hb);have n7_:=Am (blk_below (g:=gb759) (o:=.cells #[.string t752, .slice Ao26 t753.length co26, .bool t756, .string t757] 25 (0,0)) (by refine bB ?_;refine bF ?_ NB759_780.out;refine bB ?_;exact BK759.out) hb);have n8_:=Am (blk_below (g:=gb767) (o:=.cells #[.string t760, .slice Ao34 t761.length co34, .bool t764, .string t765] 25 (0,0)) (by refine bB ?_;refine bF ?_ NB767_780.out;refine bB ?_;exact BK767.out) hb);have n9_:=Am (blk_below (g:=gb780) (o:=.cells #[.string t773, .slice Ao86 t774.length co86, .bool t777, .string t778] 25 (0,0)) (by refine bB ?_;apply bP;refine bB ?_;exact BK780.out) hb);have n10_:=Am (bT (by repeat (first|(with_reducible first|exact HB.out|apply bA|apply bN|apply bD|refine bS ?_ GE744.out|refine bS ?_ GE751.out|refine bS ?_ GE759.out|refine bS ?_ GE767.out|refine bS ?_ GE780.out)|exact HB.out)) hb);clear HO_745001 HO_752001 HO_760001 HO_768001 HO776 BK744 BK751 BK759 BK767 BK780 HB;have HO_745001:=n0_;have HO_752001:=n1_;have HO_760001:=n2_;have HO_768001:=n3_;have HO776:=n4_;have BK744:=n5_;have BK751:=n6_;have BK759:=n7_;have BK767:=n8_;have BK780:=n9_;have HB:=n10_;clear n0_ n1_ n2_ n3_ n4_ n5_ n6_ n7_ n8_ n9_ n10_;(try clear hb)))
        go_ret
        exact ⟨by first|rfl|(simp <;> rfl)|(simp [*] <;> rfl),by repeat (first|(with_reducible first|exact HB.out|apply bA|apply bN|apply bD|refine bS ?_ GE744.out|refine bS ?_ GE751.out|refine bS ?_ GE759.out|refine bS ?_ GE767.out|refine bS ?_ GE780.out)|exact HB.out)⟩
       ·replace c78:=Bool.eq_false_iff.mpr c78
        subst c78
        have H1:(none) = some r:=by rw [if_neg (show ¬ (false = true) by decide)] at H;exact H
        clear H
        have H:=H1
        clear H1
        exact absurd H (by simp)

def laws_FnJoinWhole.Pure:Prop:=∀ (l0:List Int) (l1:List Int),l0.length ≤ maxLen → l0.length * 1 ≤ 140737488351232 → (∀ x ∈ l0,(Lit.int .u8 x).wf = true) → l1.length ≤ maxLen → l1.length * 1 ≤ 140737488351232 → (∀ x ∈ l1,(Lit.int .u8 x).wf = true) → ∃ k,laws_FnJoinWhole.f k l0 l1 = some true
end Go.Proofs.YtbnnamjaljohiaaDoor.P
