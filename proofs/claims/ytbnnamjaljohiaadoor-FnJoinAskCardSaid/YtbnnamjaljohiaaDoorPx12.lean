-- Written by a program of this session (patch_print.py over the kit's print; given texts in wip/given).
-- Cut down by a program of this session (wip/tools/prune.py) to what its claim can name.
import Derived.Test.YtbnnamjaljohiaaDoorSq
import Derived.Test.YtbnnamjaljohiaaDoorPx0
import Derived.Test.YtbnnamjaljohiaaDoorPx2
import Derived.Test.YtbnnamjaljohiaaDoorPx6
import Derived.Test.YtbnnamjaljohiaaDoorPx7
import Derived.Test.YtbnnamjaljohiaaDoorPx8
namespace Go.Proofs.YtbnnamjaljohiaaDoor.P
open Go.RowKit Go.Proofs.YtbnnamjaljohiaaDoorW.PrintWords Go.Proofs.YtbnnamjaljohiaaDoorW.PrintLast Go.Proofs.YtbnnamjaljohiaaDoorW.PrintMore
attribute [local go_sem] max2_int min2_int max_two min_two max_three min_three max_four min_four   -- for this text's walks alone
set_option linter.unusedVariables false
set_option linter.unusedSimpArgs false
set_option maxHeartbeats 8000000
set_option maxRecDepth 100000

def laws_FnJoinAsk.j0:Nat → Bool → Bool → Bool → ByteArray → List ByteArray → Bool → ByteArray → ByteArray → List ByteArray → Bool → ByteArray → ByteArray → List ByteArray → Bool → ByteArray → Option (Bool)
 | 0,_,_,_,_,_,_,_,_,_,_,_,_,_,_,_=>none
 | k + 1,x6,x8,x44,x720000,x720001,x720002,x720003,x728000,x728001,x728002,x728003,x736000,x736001,x736002,x736003=>if x44 = true then (if (x8 == x6) = true then ((laws_lpAddr.f k x736000 x736001 x736002 x736003 x728000 x728001 x728002 x728003).bind fun t738=>(some t738)) else (some false)) else ((impl_AddrJoin.f k x720000 x720001 x720002 x720003 (⟨#[63,113]⟩:ByteArray)).bind fun bt739=>(if bt739.2.2.2.2 = true then ((laws_lpAddr.f k bt739.1 bt739.2.1 bt739.2.2.1 bt739.2.2.2.1 x720000 x720001 true (⟨#[113]⟩:ByteArray)).bind fun t747=>(some t747)) else (some true)))
def laws_FnJoinAsk.f (k:Nat) (l0:List Int):Option (Bool):=if (l0.length:Int) > 1048576 then (some true) else ((spec_DrawAddrJoin.f k l0).bind fun bt712=>((spec_AddrJoin.f k bt712.1 bt712.2.1 bt712.2.2.1 bt712.2.2.2.1 bt712.2.2.2.2).bind fun bt720=>((impl_AddrJoin.f k bt712.1 bt712.2.1 bt712.2.2.1 bt712.2.2.2.1 bt712.2.2.2.2).bind fun bt728=>(if (bt728.2.2.2.2 != bt720.2.2.2.2) = true then (laws_FnJoinAsk.j0 k bt720.2.2.2.2 bt728.2.2.2.2 true bt712.1 bt712.2.1 bt712.2.2.1 bt712.2.2.2.1 bt720.1 bt720.2.1 bt720.2.2.1 bt720.2.2.2.1 bt728.1 bt728.2.1 bt728.2.2.1 bt728.2.2.2.1) else ((laws_lpAddr.f k bt728.1 bt728.2.1 bt728.2.2.1 bt728.2.2.2.1 bt720.1 bt720.2.1 bt720.2.2.1 bt720.2.2.2.1).bind fun t736=>(if t736 = true then ((spec_AddrOk.f k bt712.1 bt712.2.1 bt712.2.2.1 bt712.2.2.2.1).bind fun t737=>(laws_FnJoinAsk.j0 k bt720.2.2.2.2 bt728.2.2.2.2 (!t737) bt712.1 bt712.2.1 bt712.2.2.1 bt712.2.2.2.1 bt720.1 bt720.2.1 bt720.2.2.1 bt720.2.2.2.1 bt728.1 bt728.2.1 bt728.2.2.1 bt728.2.2.2.1)) else (laws_FnJoinAsk.j0 k bt720.2.2.2.2 bt728.2.2.2.2 true bt712.1 bt712.2.1 bt712.2.2.1 bt712.2.2.2.1 bt720.1 bt720.2.1 bt720.2.2.1 bt720.2.2.2.1 bt728.1 bt728.2.1 bt728.2.2.1 bt728.2.2.2.1)))))))
theorem laws_FnJoinAsk.mono_l:∀ k,(∀ y0 y1 y2 y3 y4 y5 y6 y7 y8 y9 y10 y11 y12 y13 y14,LeO (laws_FnJoinAsk.j0 k y0 y1 y2 y3 y4 y5 y6 y7 y8 y9 y10 y11 y12 y13 y14) (laws_FnJoinAsk.j0 (k + 1) y0 y1 y2 y3 y4 y5 y6 y7 y8 y9 y10 y11 y12 y13 y14))
 | 0=>fun _ _ _ _ _ _ _ _ _ _ _ _ _ _ _ r h=>by simp [laws_FnJoinAsk.j0] at h
 | k + 1=>by
  have ih0:=laws_FnJoinAsk.mono_l k
  ·intro y0 y1 y2 y3 y4 y5 y6 y7 y8 y9 y10 y11 y12 y13 y14
   unfold laws_FnJoinAsk.j0
   repeat' first
   | (with_reducible apply ih0)
   | (with_reducible apply impl_AddrJoin.mono)
   | (with_reducible apply laws_lpAddr.mono)
   | (with_reducible apply spec_AddrJoin.mono)
   | (with_reducible apply spec_AddrOk.mono)
   | (with_reducible apply spec_DrawAddrJoin.mono)
   | (with_reducible exact LeO.refl _)
   | (with_reducible exact LeO.none _)
   | (with_reducible refine LeO.ite ?_ ?_)
   | (with_reducible refine LeO.bind ?_ (fun _=>?_))
   | exact ih0 _ _ _ _ _ _ _ _ _ _ _ _ _ _ _
   | exact impl_AddrJoin.mono _ _ _ _ _ _
   | exact laws_lpAddr.mono _ _ _ _ _ _ _ _ _
   | exact spec_AddrJoin.mono _ _ _ _ _ _
   | exact spec_AddrOk.mono _ _ _ _ _
   | exact spec_DrawAddrJoin.mono _ _
   | exact LeO.none _
   | refine LeO.ite ?_ ?_
   | refine LeO.bind ?_ (fun _=>?_)
theorem laws_FnJoinAsk.mono:∀ a0 k,LeO (laws_FnJoinAsk.f k a0) (laws_FnJoinAsk.f (k + 1) a0):=by
 intro a0 k
 have ih0:=laws_FnJoinAsk.mono_l k
 unfold laws_FnJoinAsk.f
 repeat' first
   | (with_reducible apply ih0)
   | (with_reducible apply impl_AddrJoin.mono)
   | (with_reducible apply laws_lpAddr.mono)
   | (with_reducible apply spec_AddrJoin.mono)
   | (with_reducible apply spec_AddrOk.mono)
   | (with_reducible apply spec_DrawAddrJoin.mono)
   | (with_reducible exact LeO.refl _)
   | (with_reducible exact LeO.none _)
   | (with_reducible refine LeO.ite ?_ ?_)
   | (with_reducible refine LeO.bind ?_ (fun _=>?_))
   | exact ih0 _ _ _ _ _ _ _ _ _ _ _ _ _ _ _
   | exact impl_AddrJoin.mono _ _ _ _ _ _
   | exact laws_lpAddr.mono _ _ _ _ _ _ _ _ _
   | exact spec_AddrJoin.mono _ _ _ _ _ _
   | exact spec_AddrOk.mono _ _ _ _ _
   | exact spec_DrawAddrJoin.mono _ _
   | exact LeO.none _
   | refine LeO.ite ?_ ?_
   | refine LeO.bind ?_ (fun _=>?_)
theorem laws_FnJoinAsk.calls (k:Nat) (A0:Option Addr) (c0:Nat) (l0:List Int) (r:Bool) (w:World) (hr0:Kd.C (Kd.int .u8) w A0 l0.length l0) (hc0:l0.length ≤ c0) (h:laws_FnJoinAsk.f k l0 = some r) :
  Calls Tryd.prog 7 #[.slice A0 l0.length c0] w fun e w'=>e = .returned (.bool r) ∧ Below w.heap.size w w':=by
 have hu25:=Tryd.underlying25
 have HR0:=Am hr0
 have HC0:=Am hc0
 clear hr0 hc0
 have HB:=Am (Below.refl w.heap.size w)
 have H:(if (l0.length:Int) > 1048576 then (some true) else ((spec_DrawAddrJoin.f k l0).bind fun bt712=>((spec_AddrJoin.f k bt712.1 bt712.2.1 bt712.2.2.1 bt712.2.2.2.1 bt712.2.2.2.2).bind fun bt720=>((impl_AddrJoin.f k bt712.1 bt712.2.1 bt712.2.2.1 bt712.2.2.2.1 bt712.2.2.2.2).bind fun bt728=>(if (bt728.2.2.2.2 != bt720.2.2.2.2) = true then (laws_FnJoinAsk.j0 k bt720.2.2.2.2 bt728.2.2.2.2 true bt712.1 bt712.2.1 bt712.2.2.1 bt712.2.2.2.1 bt720.1 bt720.2.1 bt720.2.2.1 bt720.2.2.2.1 bt728.1 bt728.2.1 bt728.2.2.1 bt728.2.2.2.1) else ((laws_lpAddr.f k bt728.1 bt728.2.1 bt728.2.2.1 bt728.2.2.2.1 bt720.1 bt720.2.1 bt720.2.2.1 bt720.2.2.2.1).bind fun t736=>(if t736 = true then ((spec_AddrOk.f k bt712.1 bt712.2.1 bt712.2.2.1 bt712.2.2.2.1).bind fun t737=>(laws_FnJoinAsk.j0 k bt720.2.2.2.2 bt728.2.2.2.2 (!t737) bt712.1 bt712.2.1 bt712.2.2.1 bt712.2.2.2.1 bt720.1 bt720.2.1 bt720.2.2.1 bt720.2.2.2.1 bt728.1 bt728.2.1 bt728.2.2.1 bt728.2.2.2.1)) else (laws_FnJoinAsk.j0 k bt720.2.2.2.2 bt728.2.2.2.2 true bt712.1 bt712.2.1 bt712.2.2.1 bt712.2.2.2.1 bt720.1 bt720.2.1 bt720.2.2.1 bt720.2.2.2.1 bt728.1 bt728.2.1 bt728.2.2.1 bt728.2.2.2.1)))))))) = some r:=h
 clear h
 by_cases c2:(l0.length:Int) > 1048576
 ·rw [if_pos c2] at H
  have c2b0:decide (1048576 < (l0.length:Int)) = true:=decide_eq_true c2
  have c2b1:decide (1048576 < l0.length) = true:=decide_eq_true (by omega)
  clear c2
  obtain rfl:=Option.some.inj H
  go_enter Tryd.func7,Tryd.ntmps7
  go_wp2
  go_ret
  exact ⟨by first|rfl|(simp <;> rfl)|(simp [*] <;> rfl),by repeat (first|(with_reducible first|exact HB.out|apply bA|apply bN|apply bD)|exact HB.out)⟩
 ·rw [if_neg c2] at H
  have c2b0:decide (1048576 < (l0.length:Int)) = false:=decide_eq_false c2
  have c2b1:decide (1048576 < l0.length) = false:=decide_eq_false (by omega)
  clear c2
  replace H:=bI H
  obtain ⟨⟨t712,t713,t716,t717,t718⟩,A30,H⟩:=H
  replace H:((spec_AddrJoin.f k t712 t713 t716 t717 t718).bind fun bt720=>((impl_AddrJoin.f k t712 t713 t716 t717 t718).bind fun bt728=>(if (bt728.2.2.2.2 != bt720.2.2.2.2) = true then (laws_FnJoinAsk.j0 k bt720.2.2.2.2 bt728.2.2.2.2 true t712 t713 t716 t717 bt720.1 bt720.2.1 bt720.2.2.1 bt720.2.2.2.1 bt728.1 bt728.2.1 bt728.2.2.1 bt728.2.2.2.1) else ((laws_lpAddr.f k bt728.1 bt728.2.1 bt728.2.2.1 bt728.2.2.2.1 bt720.1 bt720.2.1 bt720.2.2.1 bt720.2.2.2.1).bind fun t736=>(if t736 = true then ((spec_AddrOk.f k t712 t713 t716 t717).bind fun t737=>(laws_FnJoinAsk.j0 k bt720.2.2.2.2 bt728.2.2.2.2 (!t737) t712 t713 t716 t717 bt720.1 bt720.2.1 bt720.2.2.1 bt720.2.2.2.1 bt728.1 bt728.2.1 bt728.2.2.1 bt728.2.2.2.1)) else (laws_FnJoinAsk.j0 k bt720.2.2.2.2 bt728.2.2.2.2 true t712 t713 t716 t717 bt720.1 bt720.2.1 bt720.2.2.1 bt720.2.2.2.1 bt728.1 bt728.2.1 bt728.2.2.1 bt728.2.2.2.1)))))) = some r:=H
  have A3:=Am A30
  clear A30
  replace H:=bI H
  obtain ⟨⟨t720,t721,t724,t725,t726⟩,A40,H⟩:=H
  replace H:((impl_AddrJoin.f k t712 t713 t716 t717 t718).bind fun bt728=>(if (bt728.2.2.2.2 != t726) = true then (laws_FnJoinAsk.j0 k t726 bt728.2.2.2.2 true t712 t713 t716 t717 t720 t721 t724 t725 bt728.1 bt728.2.1 bt728.2.2.1 bt728.2.2.2.1) else ((laws_lpAddr.f k bt728.1 bt728.2.1 bt728.2.2.1 bt728.2.2.2.1 t720 t721 t724 t725).bind fun t736=>(if t736 = true then ((spec_AddrOk.f k t712 t713 t716 t717).bind fun t737=>(laws_FnJoinAsk.j0 k t726 bt728.2.2.2.2 (!t737) t712 t713 t716 t717 t720 t721 t724 t725 bt728.1 bt728.2.1 bt728.2.2.1 bt728.2.2.2.1)) else (laws_FnJoinAsk.j0 k t726 bt728.2.2.2.2 true t712 t713 t716 t717 t720 t721 t724 t725 bt728.1 bt728.2.1 bt728.2.2.1 bt728.2.2.2.1))))) = some r:=H
  have A4:=Am A40
  clear A40
  replace H:=bI H
  obtain ⟨⟨t728,t729,t732,t733,t734⟩,A50,H⟩:=H
  replace H:(if (t734 != t726) = true then (laws_FnJoinAsk.j0 k t726 t734 true t712 t713 t716 t717 t720 t721 t724 t725 t728 t729 t732 t733) else ((laws_lpAddr.f k t728 t729 t732 t733 t720 t721 t724 t725).bind fun t736=>(if t736 = true then ((spec_AddrOk.f k t712 t713 t716 t717).bind fun t737=>(laws_FnJoinAsk.j0 k t726 t734 (!t737) t712 t713 t716 t717 t720 t721 t724 t725 t728 t729 t732 t733)) else (laws_FnJoinAsk.j0 k t726 t734 true t712 t713 t716 t717 t720 t721 t724 t725 t728 t729 t732 t733)))) = some r:=H
  have A5:=Am A50
  clear A50
  have HC6:=Am H
  clear H
  go_enter Tryd.func7,Tryd.ntmps7
  go_upto_region 6 with (first|((with_reducible refine gate_callee (f:=11) rfl ?_);refine goesL_ (some 16) rfl rfl Tryd.func11 (by kernel_rfl) rfl #[.slice A0 l0.length c0] rfl (aE1 rfl) ?_;(with_reducible refine (spec_DrawAddrJoin.calls k _ _ l0 t712 t713 t716 t717 t718 _ ?side1 ?side2 A3.out).mono ?_);(case side1=>repeat (first|exact HR0.out|(with_reducible refine bC ?_)));(case side2=>exact HC0.out);rintro e w7 ⟨v714,rfl,ho0,hb⟩;refine ⟨_,rfl,?_⟩;have n0_:=Am (Kd.R_lower ho0 (bU (by repeat (first|(with_reducible first|exact HB.out|apply bA|apply bN|apply bD)|exact HB.out))));have n1_:=Am (bT (by repeat (first|(with_reducible first|exact HB.out|apply bA|apply bN|apply bD)|exact HB.out)) hb);clear HB;have HO715:=n0_;have HB:=n1_;clear n0_ n1_;(try clear hb);(try clear ho0))|((with_reducible refine gate_dst (N:=3) rfl ?_);refine box_event ?hg (N:=3) ?hd (cs:=#[.string (⟨#[]⟩:ByteArray), .slice none 0 0, .bool false, .string (⟨#[]⟩:ByteArray)]) (t:=25) ?hr ?_;(case hd=>rfl);(case hg=>rfl);(case hr=>(go_simp <;> rfl));intro gb719 hg w8 hbox hb;have n0_:=Am (Kd.R_below (bR HO715.out) hb);have n1_:=Am (bT (by repeat (first|(with_reducible first|exact HB.out|apply bA|apply bN|apply bD)|exact HB.out)) hb);have n2_:=Am (hbox);have n3_:=Am ((by rw [hg];exact (bU (by repeat (first|(with_reducible first|exact HB.out|apply bA|apply bN|apply bD)|exact HB.out))):w.heap.size ≤ gb719));have n4_:=n3_;clear HO715 HB;have HO715:=n0_;have HB:=n1_;have BK719:=n2_;have GW719:=n3_;have GE719:=n4_;clear n0_ n1_ n2_ n3_ n4_ hb hbox hg;have hcz9_0:w8.cell? ⟨gb719,0,none⟩ = some (.string (⟨#[]⟩:ByteArray)):=bM BK719.out 0 rfl;have hcz9_1:w8.cell? ⟨gb719,1,none⟩ = some (.slice none 0 0):=bM BK719.out 1 rfl;have hcz9_2:w8.cell? ⟨gb719,2,none⟩ = some (.bool false):=bM BK719.out 2 rfl;have hcz9_3:w8.cell? ⟨gb719,3,none⟩ = some (.string (⟨#[]⟩:ByteArray)):=bM BK719.out 3 rfl;have hfz9_0:=bZ BK719.out 0;have hfz9_1:=bZ BK719.out 1;have hfz9_2:=bZ BK719.out 2;have hfz9_3:=bZ BK719.out 3;obtain ⟨Ao10,co10,eo10⟩:=Kd.R_slice HO715.out;subst eo10)|((with_reducible refine gate_callee (f:=12) rfl ?_);refine goesL_ (some 22) rfl rfl Tryd.func12 (by kernel_rfl) rfl #[.agg #[.string t712, .slice Ao10 t713.length co10, .bool t716, .string t717], .string t718] rfl (aE2 rfl rfl) ?_;(with_reducible refine (spec_AddrJoin.calls k t712 _ _ t713 t716 t717 t718 t720 t721 t724 t725 t726 _ ?side1 ?side2 A4.out).mono ?_);(case side1=>refine (Kd.R_reads' (e:=9) (base:=w.heap.size) (ok:=fun k_=>True) (n:=t713.length) (c:=co10) ?_).2.2;exact (by (with_reducible repeat (first|apply rA|apply rN|apply rD));exact (bQ HO715.out BK719.out (by decide) _ _ _ _)));(case side2=>exact (Kd.R_reads' HO715.out).2.1);rintro e w11 ⟨v722,rfl,ho0,hb⟩;refine ⟨_,rfl,?_⟩;have n0_:=Am (Kd.R_elder' (by (with_reducible repeat (first|apply rA|apply rN|apply rD));exact (bQ HO715.out BK719.out (by decide) _ _ _ _)) (Kd.R_base ho0) hb);have n1_:=Am (Kd.R_lower (Kd.R_new' ho0 (Kd.R_lt (by (with_reducible repeat (first|apply rA|apply rN|apply rD));exact (bQ HO715.out BK719.out (by decide) _ _ _ _)))) (bU (by repeat (first|(with_reducible first|exact HB.out|apply bA|apply bN|apply bD|refine bS ?_ GE719.out)|exact HB.out))));have n2_:=Am (blk_below (g:=gb719) (o:=.cells #[.string t712, .slice Ao10 t713.length co10, .bool t716, .string t717] 25 (0,0)) (by refine bB ?_;apply bP;refine bB ?_;exact BK719.out) hb);have n3_:=Am (bT (by repeat (first|(with_reducible first|exact HB.out|apply bA|apply bN|apply bD|refine bS ?_ GE719.out)|exact HB.out)) hb);clear HO715 BK719 HB;have HO715:=n0_;have HO723:=n1_;have BK719:=n2_;have HB:=n3_;clear n0_ n1_ n2_ n3_;(try clear hb);(try clear ho0))|((with_reducible refine gate_dst (N:=5) rfl ?_);refine box_event ?hg (N:=5) ?hd (cs:=#[.string (⟨#[]⟩:ByteArray), .slice none 0 0, .bool false, .string (⟨#[]⟩:ByteArray)]) (t:=25) ?hr ?_;(case hd=>rfl);(case hg=>rfl);(case hr=>(go_simp <;> rfl));intro gb727 hg w12 hbox hb;have n0_:=Am (Kd.R_below (bR HO715.out) hb);have n1_:=Am (Kd.R_below (bR HO723.out) hb);have n2_:=Am (blk_below (bB BK719.out) hb);have n3_:=Am (bT (by repeat (first|(with_reducible first|exact HB.out|apply bA|apply bN|apply bD|refine bS ?_ GE719.out)|exact HB.out)) hb);have n4_:=Am (hbox);have n5_:=Am ((by rw [hg];exact (bU (by repeat (first|(with_reducible first|exact HB.out|apply bA|apply bN|apply bD|refine bS ?_ GE719.out)|exact HB.out))):w.heap.size ≤ gb727));have n6_:=n5_;have n7_:=Am ((by rw [hg];exact Nat.ne_of_lt (blk_lt (bB BK719.out)):gb719 ≠ gb727));have n8_:=Am ((by rw [hg];exact Nat.ne_of_gt (blk_lt (bB BK719.out)):gb727 ≠ gb719));clear HO715 HO723 BK719 HB;have HO715:=n0_;have HO723:=n1_;have BK719:=n2_;have HB:=n3_;have BK727:=n4_;have GW727:=n5_;have GE727:=n6_;have NB719_727:=n7_;have NB727_719:=n8_;clear n0_ n1_ n2_ n3_ n4_ n5_ n6_ n7_ n8_ hb hbox hg;have hnb13:=NB727_719.out;have hnc13:=NB719_727.out;have hcz14_0:w12.cell? ⟨gb727,0,none⟩ = some (.string (⟨#[]⟩:ByteArray)):=bM BK727.out 0 rfl;have hcz14_1:w12.cell? ⟨gb727,1,none⟩ = some (.slice none 0 0):=bM BK727.out 1 rfl;have hcz14_2:w12.cell? ⟨gb727,2,none⟩ = some (.bool false):=bM BK727.out 2 rfl;have hcz14_3:w12.cell? ⟨gb727,3,none⟩ = some (.string (⟨#[]⟩:ByteArray)):=bM BK727.out 3 rfl;have hfz14_0:=bZ BK727.out 0;have hfz14_1:=bZ BK727.out 1;have hfz14_2:=bZ BK727.out 2;have hfz14_3:=bZ BK727.out 3;obtain ⟨Ao15,co15,eo15⟩:=Kd.R_slice HO723.out;subst eo15;have hcz16_0:w12.cell? ⟨gb719,0,none⟩ = some (.string t712):=bM BK719.out 0 rfl;have hcz16_1:w12.cell? ⟨gb719,1,none⟩ = some (.slice Ao10 t713.length co10):=bM BK719.out 1 rfl;have hcz16_2:w12.cell? ⟨gb719,2,none⟩ = some (.bool t716):=bM BK719.out 2 rfl;have hcz16_3:w12.cell? ⟨gb719,3,none⟩ = some (.string t717):=bM BK719.out 3 rfl;have hfz16_0:=bZ BK719.out 0;have hfz16_1:=bZ BK719.out 1;have hfz16_2:=bZ BK719.out 2;have hfz16_3:=bZ BK719.out 3)|((with_reducible refine gate_callee (f:=13) rfl ?_);refine goesL_ (some 28) rfl rfl Tryd.func13 (by kernel_rfl) rfl #[.agg #[.string t712, .slice Ao10 t713.length co10, .bool t716, .string t717], .string t718] rfl (aE2 rfl rfl) ?_;(with_reducible refine (impl_AddrJoin.calls k t712 _ _ t713 t716 t717 t718 t728 t729 t732 t733 t734 _ ?side1 ?side2 A5.out).mono ?_);(case side1=>refine (Kd.R_reads' (e:=9) (base:=w.heap.size) (ok:=fun k_=>(True ∧ some k_ ≠ (.slice Ao15 t721.length co15:Value).ownBlock)) (n:=t713.length) (c:=co10) ?_).2.2;exact (by (with_reducible repeat (first|apply rA|apply rN|apply rD));exact (bQ HO715.out BK727.out (by decide) _ _ _ _)));(case side2=>exact (Kd.R_reads' HO715.out).2.1);rintro e w17 ⟨v730,rfl,ho0,hb⟩;refine ⟨_,rfl,?_⟩;have n0_:=Am (Kd.R_elder' (by (with_reducible repeat (first|apply rA|apply rN|apply rD));exact (bQ HO715.out BK727.out (by decide) _ _ _ _)) (Kd.R_base ho0) hb);have n1_:=Am (Kd.R_elder' (by (with_reducible repeat (first|apply rA|apply rN|apply rD));exact (bQ HO723.out BK727.out (by decide) _ _ _ _)) (Kd.R_base ho0) hb);have n2_:=Am (Kd.R_lower (Kd.R_new' (Kd.R_new' ho0 (Kd.R_lt (by (with_reducible repeat (first|apply rA|apply rN|apply rD));exact (bQ HO715.out BK727.out (by decide) _ _ _ _)))) (Kd.R_lt (by (with_reducible repeat (first|apply rA|apply rN|apply rD));exact (bQ HO723.out BK727.out (by decide) _ _ _ _)))) (bU (by repeat (first|(with_reducible first|exact HB.out|apply bA|apply bN|apply bD|refine bS ?_ GE719.out|refine bS ?_ GE727.out)|exact HB.out))));have n3_:=Am (blk_below (g:=gb719) (o:=.cells #[.string t712, .slice Ao10 t713.length co10, .bool t716, .string t717] 25 (0,0)) (by refine bB ?_;refine bF ?_ NB719_727.out;refine bB ?_;exact BK719.out) hb);have n4_:=Am (blk_below (g:=gb727) (o:=.cells #[.string t720, .slice Ao15 t721.length co15, .bool t724, .string t725] 25 (0,0)) (by refine bB ?_;apply bP;refine bB ?_;exact BK727.out) hb);have n5_:=Am (bT (by repeat (first|(with_reducible first|exact HB.out|apply bA|apply bN|apply bD|refine bS ?_ GE719.out|refine bS ?_ GE727.out)|exact HB.out)) hb);clear HO715 HO723 BK719 BK727 HB;have HO715:=n0_;have HO723:=n1_;have HO731:=n2_;have BK719:=n3_;have BK727:=n4_;have HB:=n5_;clear n0_ n1_ n2_ n3_ n4_ n5_;(try clear hb);(try clear ho0))|((with_reducible refine gate_dst (N:=7) rfl ?_);refine box_event ?hg (N:=7) ?hd (cs:=#[.string (⟨#[]⟩:ByteArray), .slice none 0 0, .bool false, .string (⟨#[]⟩:ByteArray)]) (t:=25) ?hr ?_;(case hd=>rfl);(case hg=>rfl);(case hr=>(go_simp <;> rfl));intro gb735 hg w18 hbox hb;have n0_:=Am (Kd.R_below (bR HO715.out) hb);have n1_:=Am (Kd.R_below (bR HO723.out) hb);have n2_:=Am (Kd.R_below (bR HO731.out) hb);have n3_:=Am (blk_below (bB BK719.out) hb);have n4_:=Am (blk_below (bB BK727.out) hb);have n5_:=Am (bT (by repeat (first|(with_reducible first|exact HB.out|apply bA|apply bN|apply bD|refine bS ?_ GE719.out|refine bS ?_ GE727.out)|exact HB.out)) hb);have n6_:=Am (hbox);have n7_:=Am ((by rw [hg];exact (bU (by repeat (first|(with_reducible first|exact HB.out|apply bA|apply bN|apply bD|refine bS ?_ GE719.out|refine bS ?_ GE727.out)|exact HB.out))):w.heap.size ≤ gb735));have n8_:=n7_;have n9_:=Am ((by rw [hg];exact Nat.ne_of_lt (blk_lt (bB BK719.out)):gb719 ≠ gb735));have n10_:=Am ((by rw [hg];exact Nat.ne_of_gt (blk_lt (bB BK719.out)):gb735 ≠ gb719));have n11_:=Am ((by rw [hg];exact Nat.ne_of_lt (blk_lt (bB BK727.out)):gb727 ≠ gb735));have n12_:=Am ((by rw [hg];exact Nat.ne_of_gt (blk_lt (bB BK727.out)):gb735 ≠ gb727));clear HO715 HO723 HO731 BK719 BK727 HB;have HO715:=n0_;have HO723:=n1_;have HO731:=n2_;have BK719:=n3_;have BK727:=n4_;have HB:=n5_;have BK735:=n6_;have GW735:=n7_;have GE735:=n8_;have NB719_735:=n9_;have NB735_719:=n10_;have NB727_735:=n11_;have NB735_727:=n12_;clear n0_ n1_ n2_ n3_ n4_ n5_ n6_ n7_ n8_ n9_ n10_ n11_ n12_ hb hbox hg;have hnb19:=NB735_719.out;have hnc19:=NB719_735.out;have hnb20:=NB735_727.out;have hnc20:=NB727_735.out;have hcz21_0:w18.cell? ⟨gb735,0,none⟩ = some (.string (⟨#[]⟩:ByteArray)):=bM BK735.out 0 rfl;have hcz21_1:w18.cell? ⟨gb735,1,none⟩ = some (.slice none 0 0):=bM BK735.out 1 rfl;have hcz21_2:w18.cell? ⟨gb735,2,none⟩ = some (.bool false):=bM BK735.out 2 rfl;have hcz21_3:w18.cell? ⟨gb735,3,none⟩ = some (.string (⟨#[]⟩:ByteArray)):=bM BK735.out 3 rfl;have hfz21_0:=bZ BK735.out 0;have hfz21_1:=bZ BK735.out 1;have hfz21_2:=bZ BK735.out 2;have hfz21_3:=bZ BK735.out 3;obtain ⟨Ao22,co22,eo22⟩:=Kd.R_slice HO731.out;subst eo22))
  (try simp only [Act.put,List.setIfInBounds_toArray,List.set_cons_zero,List.set_cons_succ])
  go_cut [44] (fun v44 wc=>∃ (kq:Nat) (x44_5:Bool),v44 = .bool x44_5 ∧ Aside0 (laws_FnJoinAsk.j0 kq t726 t734 x44_5 t712 t713 t716 t717 t720 t721 t724 t725 t728 t729 t732 t733 = some r) ∧ Aside0 (kq ≤ k) ∧ Aside0 (Kd.R Kd.string 9 wc w.heap.size (fun k_=>some k_ ≠ ((.slice Ao15 t721.length co15):Value).ownBlock ∧ some k_ ≠ ((.slice Ao22 t729.length co22):Value).ownBlock) (.slice Ao10 t713.length co10) t713) ∧ Aside0 (Kd.R Kd.string 9 wc w.heap.size (fun k_=>some k_ ≠ ((.slice Ao10 t713.length co10):Value).ownBlock ∧ some k_ ≠ ((.slice Ao22 t729.length co22):Value).ownBlock) (.slice Ao15 t721.length co15) t721) ∧ Aside0 (Kd.R Kd.string 9 wc w.heap.size (fun k_=>some k_ ≠ ((.slice Ao10 t713.length co10):Value).ownBlock ∧ some k_ ≠ ((.slice Ao15 t721.length co15):Value).ownBlock) (.slice Ao22 t729.length co22) t729) ∧ Aside0 (wc.heap[gb719]? = some (.cells #[.string t712,(.slice Ao10 t713.length co10), .bool t716, .string t717] 25 (0,0))) ∧ Aside0 (wc.heap[gb727]? = some (.cells #[.string t720,(.slice Ao15 t721.length co15), .bool t724, .string t725] 25 (0,0))) ∧ Aside0 (wc.heap[gb735]? = some (.cells #[.string t728,(.slice Ao22 t729.length co22), .bool t732, .string t733] 25 (0,0))) ∧ Aside0 (Below w.heap.size w wc))
  case first =>
   have H:=HC6.out
   clear HC6
   by_cases c23:(t734 != t726) = true
   ·rw [if_pos c23] at H
    have c23b0:(t734 != t726) = true:=c23
    (try (have c23b1:decide (t734 = t726) = false:=by simpa using c23))
    (try (have c23b2:(t734 == t726) = false:=by simpa using c23))
    (try (have c23b3:¬ (t734 = t726):=by simpa using c23))
    clear c23
    (first|rw [c23b0]|(simp only [i64_w,i32_w];rw [c23b0])|skip)
    have H':=Am H
    clear H
    go_wp2
    go_meet
    case rel=>exact ⟨_,(true),(by first|rfl|(simp;done)|(simp only [i64_w,i32_w] <;> rfl)|(simp [*];done)|(simp [emp_bne,emp_beq];done)),H',⟨by first|omega|exact Nat.le_refl _⟩,⟨by (with_reducible repeat (first|apply rA|apply rN|apply rD));exact Kd.R_mono (Kd.R_far (p:=⟨gb735,3,none⟩) (Kd.R_far (p:=⟨gb735,2,none⟩) (Kd.R_far (p:=⟨gb735,1,none⟩) (Kd.R_far (p:=⟨gb735,0,none⟩) (Kd.R_types HO715.out BK735.out (by decide)) (fun _ hk=>hk.2) (.string t728)) (fun _ hk=>hk.2) (.slice Ao22 t729.length co22)) (fun _ hk=>hk.2) (.bool t732)) (fun _ hk=>hk.2) (.string t733)) (fun _ hk=>⟨hk.1.1.2,hk.1.2⟩)⟩,⟨by (with_reducible repeat (first|apply rA|apply rN|apply rD));exact Kd.R_mono (Kd.R_far (p:=⟨gb735,3,none⟩) (Kd.R_far (p:=⟨gb735,2,none⟩) (Kd.R_far (p:=⟨gb735,1,none⟩) (Kd.R_far (p:=⟨gb735,0,none⟩) (Kd.R_types HO723.out BK735.out (by decide)) (fun _ hk=>hk.2) (.string t728)) (fun _ hk=>hk.2) (.slice Ao22 t729.length co22)) (fun _ hk=>hk.2) (.bool t732)) (fun _ hk=>hk.2) (.string t733)) (fun _ hk=>⟨hk.1.1.2,hk.1.2⟩)⟩,⟨by (with_reducible repeat (first|apply rA|apply rN|apply rD));exact Kd.R_mono (Kd.R_far (p:=⟨gb735,3,none⟩) (Kd.R_far (p:=⟨gb735,2,none⟩) (Kd.R_far (p:=⟨gb735,1,none⟩) (Kd.R_far (p:=⟨gb735,0,none⟩) (Kd.R_types HO731.out BK735.out (by decide)) (fun _ hk=>hk.2) (.string t728)) (fun _ hk=>hk.2) (.slice Ao22 t729.length co22)) (fun _ hk=>hk.2) (.bool t732)) (fun _ hk=>hk.2) (.string t733)) (fun _ hk=>⟨hk.1.1.2,hk.1.2⟩)⟩,⟨by refine bB ?_;refine bF ?_ NB719_735.out;refine bB ?_;exact BK719.out⟩,⟨by refine bB ?_;refine bF ?_ NB727_735.out;refine bB ?_;exact BK727.out⟩,⟨by refine bB ?_;apply bP;refine bB ?_;exact BK735.out⟩,⟨by repeat (first|(with_reducible first|exact HB.out|apply bA|apply bN|apply bD|refine bS ?_ GE719.out|refine bS ?_ GE727.out|refine bS ?_ GE735.out)|exact HB.out)⟩⟩
   ·rw [if_neg c23] at H
    have c23b0:(t734 != t726) = false:=by simpa using c23
    (try (have c23b1:decide (t734 = t726) = true:=by simpa using c23))
    (try (have c23b2:(t734 == t726) = true:=by simpa using c23))
    clear c23
    (first|rw [c23b0]|(simp only [i64_w,i32_w];rw [c23b0])|skip)
    replace H:=bI H
    obtain ⟨t736,A240,H⟩:=H
    replace H:(if t736 = true then ((spec_AddrOk.f k t712 t713 t716 t717).bind fun t737=>(laws_FnJoinAsk.j0 k t726 t734 (!t737) t712 t713 t716 t717 t720 t721 t724 t725 t728 t729 t732 t733)) else (laws_FnJoinAsk.j0 k t726 t734 true t712 t713 t716 t717 t720 t721 t724 t725 t728 t729 t732 t733)) = some r:=H
    have A24:=Am A240
    clear A240
    by_cases c25:t736 = true
    ·subst c25
     have H1:((spec_AddrOk.f k t712 t713 t716 t717).bind fun t737=>(laws_FnJoinAsk.j0 k t726 t734 (!t737) t712 t713 t716 t717 t720 t721 t724 t725 t728 t729 t732 t733)) = some r:=by rw [if_pos rfl] at H;exact H
     clear H
     have H:=H1
     clear H1
     replace H:=bI H
     obtain ⟨t737,A260,H⟩:=H
     replace H:(laws_FnJoinAsk.j0 k t726 t734 (!t737) t712 t713 t716 t717 t720 t721 t724 t725 t728 t729 t732 t733) = some r:=H
     have A26:=Am A260
     clear A260
     have H':=Am H
     clear H
     have hnb27:=NB735_719.out
     have hnc27:=NB719_735.out
     have hnb28:=NB735_727.out
     have hnc28:=NB727_735.out
     have hcz29_0:w18.cell? ⟨gb735,0,none⟩ = some (.string (⟨#[]⟩:ByteArray)):=bM BK735.out 0 rfl
     have hcz29_1:w18.cell? ⟨gb735,1,none⟩ = some (.slice none 0 0):=bM BK735.out 1 rfl
     have hcz29_2:w18.cell? ⟨gb735,2,none⟩ = some (.bool false):=bM BK735.out 2 rfl
     have hcz29_3:w18.cell? ⟨gb735,3,none⟩ = some (.string (⟨#[]⟩:ByteArray)):=bM BK735.out 3 rfl
     have hfz29_0:=bZ BK735.out 0
     have hfz29_1:=bZ BK735.out 1
     have hfz29_2:=bZ BK735.out 2
     have hfz29_3:=bZ BK735.out 3
     have hnb30:=NB727_719.out
     have hnc30:=NB719_727.out
     have hcz31_0:w18.cell? ⟨gb727,0,none⟩ = some (.string t720):=bM BK727.out 0 rfl
     have hcz31_1:w18.cell? ⟨gb727,1,none⟩ = some (.slice Ao15 t721.length co15):=bM BK727.out 1 rfl
     have hcz31_2:w18.cell? ⟨gb727,2,none⟩ = some (.bool t724):=bM BK727.out 2 rfl
     have hcz31_3:w18.cell? ⟨gb727,3,none⟩ = some (.string t725):=bM BK727.out 3 rfl
     have hfz31_0:=bZ BK727.out 0
     have hfz31_1:=bZ BK727.out 1
     have hfz31_2:=bZ BK727.out 2
     have hfz31_3:=bZ BK727.out 3
     go_wp2_with (first|(go_at_call 14;(with_reducible refine (laws_lpAddr.calls k t728 _ _ t729 t732 t733 t720 _ _ t721 t724 t725 true _ ?side1 ?side2 ?side3 ?side4 A24.out).mono ?_);(case side1=>refine (Kd.R_reads' (e:=9) (base:=w.heap.size) (ok:=fun k_=>((True ∧ some k_ ≠ (.slice Ao10 t713.length co10:Value).ownBlock) ∧ some k_ ≠ (.slice Ao15 t721.length co15:Value).ownBlock)) (n:=t729.length) (c:=co22) ?_).2.2;exact (by (with_reducible repeat (first|apply rA|apply rN|apply rD));exact (bQ HO731.out BK735.out (by decide) _ _ _ _)));(case side2=>exact (Kd.R_reads' HO731.out).2.1);(case side3=>refine (Kd.R_reads' (e:=9) (base:=w.heap.size) (ok:=fun k_=>((True ∧ some k_ ≠ (.slice Ao10 t713.length co10:Value).ownBlock) ∧ some k_ ≠ (.slice Ao22 t729.length co22:Value).ownBlock)) (n:=t721.length) (c:=co15) ?_).2.2;exact (by (with_reducible repeat (first|apply rA|apply rN|apply rD));exact (bQ HO723.out BK735.out (by decide) _ _ _ _)));(case side4=>exact (Kd.R_reads' HO723.out).2.1);rintro e w32 ⟨rfl,hb⟩;have n0_:=Am (Kd.R_below (by (with_reducible repeat (first|apply rA|apply rN|apply rD));exact (bQ HO715.out BK735.out (by decide) _ _ _ _)) hb);have n1_:=Am (Kd.R_below (by (with_reducible repeat (first|apply rA|apply rN|apply rD));exact (bQ HO723.out BK735.out (by decide) _ _ _ _)) hb);have n2_:=Am (Kd.R_below (by (with_reducible repeat (first|apply rA|apply rN|apply rD));exact (bQ HO731.out BK735.out (by decide) _ _ _ _)) hb);have n3_:=Am (blk_below (g:=gb719) (o:=.cells #[.string t712, .slice Ao10 t713.length co10, .bool t716, .string t717] 25 (0,0)) (by refine bB ?_;refine bF ?_ NB719_735.out;refine bB ?_;exact BK719.out) hb);have n4_:=Am (blk_below (g:=gb727) (o:=.cells #[.string t720, .slice Ao15 t721.length co15, .bool t724, .string t725] 25 (0,0)) (by refine bB ?_;refine bF ?_ NB727_735.out;refine bB ?_;exact BK727.out) hb);have n5_:=Am (blk_below (g:=gb735) (o:=.cells #[.string t728, .slice Ao22 t729.length co22, .bool t732, .string t733] 25 (0,0)) (by refine bB ?_;apply bP;refine bB ?_;exact BK735.out) hb);have n6_:=Am (bT (by repeat (first|(with_reducible first|exact HB.out|apply bA|apply bN|apply bD|refine bS ?_ GE719.out|refine bS ?_ GE727.out|refine bS ?_ GE735.out)|exact HB.out)) hb);clear HO715 HO723 HO731 BK719 BK727 BK735 HB;have HO715:=n0_;have HO723:=n1_;have HO731:=n2_;have BK719:=n3_;have BK727:=n4_;have BK735:=n5_;have HB:=n6_;clear n0_ n1_ n2_ n3_ n4_ n5_ n6_;(try clear hb);have hcz33_0:w32.cell? ⟨gb719,0,none⟩ = some (.string t712):=bM BK719.out 0 rfl;have hcz33_1:w32.cell? ⟨gb719,1,none⟩ = some (.slice Ao10 t713.length co10):=bM BK719.out 1 rfl;have hcz33_2:w32.cell? ⟨gb719,2,none⟩ = some (.bool t716):=bM BK719.out 2 rfl;have hcz33_3:w32.cell? ⟨gb719,3,none⟩ = some (.string t717):=bM BK719.out 3 rfl;have hfz33_0:=bZ BK719.out 0;have hfz33_1:=bZ BK719.out 1;have hfz33_2:=bZ BK719.out 2;have hfz33_3:=bZ BK719.out 3)|(go_at_call 15;(with_reducible refine (spec_AddrOk.calls k t712 _ _ t713 t716 t717 t737 _ ?side1 ?side2 A26.out).mono ?_);(case side1=>repeat (first|exact (Kd.R_reads' HO715.out).2.2|(with_reducible refine bC ?_)));(case side2=>exact (Kd.R_reads' HO715.out).2.1);rintro e w34 ⟨rfl,hb⟩;have n0_:=Am (Kd.R_below (bR HO715.out) hb);have n1_:=Am (Kd.R_below (bR HO723.out) hb);have n2_:=Am (Kd.R_below (bR HO731.out) hb);have n3_:=Am (blk_below (bB BK719.out) hb);have n4_:=Am (blk_below (bB BK727.out) hb);have n5_:=Am (blk_below (bB BK735.out) hb);have n6_:=Am (bT (by repeat (first|(with_reducible first|exact HB.out|apply bA|apply bN|apply bD|refine bS ?_ GE719.out|refine bS ?_ GE727.out|refine bS ?_ GE735.out)|exact HB.out)) hb);clear HO715 HO723 HO731 BK719 BK727 BK735 HB;have HO715:=n0_;have HO723:=n1_;have HO731:=n2_;have BK719:=n3_;have BK727:=n4_;have BK735:=n5_;have HB:=n6_;clear n0_ n1_ n2_ n3_ n4_ n5_ n6_;(try clear hb)))
     go_meet
     case rel=>exact ⟨_,(!t737),(by first|rfl|(simp;done)|(simp only [i64_w,i32_w] <;> rfl)|(simp [*];done)|(simp [emp_bne,emp_beq];done)),H',⟨by first|omega|exact Nat.le_refl _⟩,⟨by (with_reducible repeat (first|apply rA|apply rN|apply rD));exact Kd.R_mono HO715.out (fun _ hk=>⟨hk.1.2,hk.2⟩)⟩,⟨by (with_reducible repeat (first|apply rA|apply rN|apply rD));exact Kd.R_mono HO723.out (fun _ hk=>⟨hk.1.2,hk.2⟩)⟩,⟨by (with_reducible repeat (first|apply rA|apply rN|apply rD));exact Kd.R_mono HO731.out (fun _ hk=>⟨hk.1.2,hk.2⟩)⟩,⟨by refine bB ?_;exact BK719.out⟩,⟨by refine bB ?_;exact BK727.out⟩,⟨by refine bB ?_;exact BK735.out⟩,⟨by repeat (first|(with_reducible first|exact HB.out|apply bA|apply bN|apply bD|refine bS ?_ GE719.out|refine bS ?_ GE727.out|refine bS ?_ GE735.out)|exact HB.out)⟩⟩
    ·replace c25:=Bool.eq_false_iff.mpr c25
     subst c25
     have H1:(laws_FnJoinAsk.j0 k t726 t734 true t712 t713 t716 t717 t720 t721 t724 t725 t728 t729 t732 t733) = some r:=by rw [if_neg (show ¬ (false = true) by decide)] at H;exact H
     clear H
     have H:=H1
     clear H1
     have H':=Am H
     clear H
     have hnb35:=NB735_719.out
     have hnc35:=NB719_735.out
     have hnb36:=NB735_727.out
     have hnc36:=NB727_735.out
     have hcz37_0:w18.cell? ⟨gb735,0,none⟩ = some (.string (⟨#[]⟩:ByteArray)):=bM BK735.out 0 rfl
     have hcz37_1:w18.cell? ⟨gb735,1,none⟩ = some (.slice none 0 0):=bM BK735.out 1 rfl
     have hcz37_2:w18.cell? ⟨gb735,2,none⟩ = some (.bool false):=bM BK735.out 2 rfl
     have hcz37_3:w18.cell? ⟨gb735,3,none⟩ = some (.string (⟨#[]⟩:ByteArray)):=bM BK735.out 3 rfl
     have hfz37_0:=bZ BK735.out 0
     have hfz37_1:=bZ BK735.out 1
     have hfz37_2:=bZ BK735.out 2
     have hfz37_3:=bZ BK735.out 3
     have hnb38:=NB727_719.out
     have hnc38:=NB719_727.out
     have hcz39_0:w18.cell? ⟨gb727,0,none⟩ = some (.string t720):=bM BK727.out 0 rfl
     have hcz39_1:w18.cell? ⟨gb727,1,none⟩ = some (.slice Ao15 t721.length co15):=bM BK727.out 1 rfl
     have hcz39_2:w18.cell? ⟨gb727,2,none⟩ = some (.bool t724):=bM BK727.out 2 rfl
     have hcz39_3:w18.cell? ⟨gb727,3,none⟩ = some (.string t725):=bM BK727.out 3 rfl
     have hfz39_0:=bZ BK727.out 0
     have hfz39_1:=bZ BK727.out 1
     have hfz39_2:=bZ BK727.out 2
     have hfz39_3:=bZ BK727.out 3
     go_wp2_with (first|(go_at_call 14;(with_reducible refine (laws_lpAddr.calls k t728 _ _ t729 t732 t733 t720 _ _ t721 t724 t725 false _ ?side1 ?side2 ?side3 ?side4 A24.out).mono ?_);(case side1=>refine (Kd.R_reads' (e:=9) (base:=w.heap.size) (ok:=fun k_=>((True ∧ some k_ ≠ (.slice Ao10 t713.length co10:Value).ownBlock) ∧ some k_ ≠ (.slice Ao15 t721.length co15:Value).ownBlock)) (n:=t729.length) (c:=co22) ?_).2.2;exact (by (with_reducible repeat (first|apply rA|apply rN|apply rD));exact (bQ HO731.out BK735.out (by decide) _ _ _ _)));(case side2=>exact (Kd.R_reads' HO731.out).2.1);(case side3=>refine (Kd.R_reads' (e:=9) (base:=w.heap.size) (ok:=fun k_=>((True ∧ some k_ ≠ (.slice Ao10 t713.length co10:Value).ownBlock) ∧ some k_ ≠ (.slice Ao22 t729.length co22:Value).ownBlock)) (n:=t721.length) (c:=co15) ?_).2.2;exact (by (with_reducible repeat (first|apply rA|apply rN|apply rD));exact (bQ HO723.out BK735.out (by decide) _ _ _ _)));(case side4=>exact (Kd.R_reads' HO723.out).2.1);rintro e w40 ⟨rfl,hb⟩;have n0_:=Am (Kd.R_below (by (with_reducible repeat (first|apply rA|apply rN|apply rD));exact (bQ HO715.out BK735.out (by decide) _ _ _ _)) hb);have n1_:=Am (Kd.R_below (by (with_reducible repeat (first|apply rA|apply rN|apply rD));exact (bQ HO723.out BK735.out (by decide) _ _ _ _)) hb);have n2_:=Am (Kd.R_below (by (with_reducible repeat (first|apply rA|apply rN|apply rD));exact (bQ HO731.out BK735.out (by decide) _ _ _ _)) hb);have n3_:=Am (blk_below (g:=gb719) (o:=.cells #[.string t712, .slice Ao10 t713.length co10, .bool t716, .string t717] 25 (0,0)) (by refine bB ?_;refine bF ?_ NB719_735.out;refine bB ?_;exact BK719.out) hb);have n4_:=Am (blk_below (g:=gb727) (o:=.cells #[.string t720, .slice Ao15 t721.length co15, .bool t724, .string t725] 25 (0,0)) (by refine bB ?_;refine bF ?_ NB727_735.out;refine bB ?_;exact BK727.out) hb);have n5_:=Am (blk_below (g:=gb735) (o:=.cells #[.string t728, .slice Ao22 t729.length co22, .bool t732, .string t733] 25 (0,0)) (by refine bB ?_;apply bP;refine bB ?_;exact BK735.out) hb);have n6_:=Am (bT (by repeat (first|(with_reducible first|exact HB.out|apply bA|apply bN|apply bD|refine bS ?_ GE719.out|refine bS ?_ GE727.out|refine bS ?_ GE735.out)|exact HB.out)) hb);clear HO715 HO723 HO731 BK719 BK727 BK735 HB;have HO715:=n0_;have HO723:=n1_;have HO731:=n2_;have BK719:=n3_;have BK727:=n4_;have BK735:=n5_;have HB:=n6_;clear n0_ n1_ n2_ n3_ n4_ n5_ n6_;(try clear hb)))
     go_meet
     case rel=>exact ⟨_,(true),(by first|rfl|(simp;done)|(simp only [i64_w,i32_w] <;> rfl)|(simp [*];done)|(simp [emp_bne,emp_beq];done)),H',⟨by first|omega|exact Nat.le_refl _⟩,⟨by (with_reducible repeat (first|apply rA|apply rN|apply rD));exact Kd.R_mono HO715.out (fun _ hk=>⟨hk.1.2,hk.2⟩)⟩,⟨by (with_reducible repeat (first|apply rA|apply rN|apply rD));exact Kd.R_mono HO723.out (fun _ hk=>⟨hk.1.2,hk.2⟩)⟩,⟨by (with_reducible repeat (first|apply rA|apply rN|apply rD));exact Kd.R_mono HO731.out (fun _ hk=>⟨hk.1.2,hk.2⟩)⟩,⟨by refine bB ?_;exact BK719.out⟩,⟨by refine bB ?_;exact BK727.out⟩,⟨by refine bB ?_;exact BK735.out⟩,⟨by repeat (first|(with_reducible first|exact HB.out|apply bA|apply bN|apply bD|refine bS ?_ GE719.out|refine bS ?_ GE727.out|refine bS ?_ GE735.out)|exact HB.out)⟩⟩
  case rest =>
   clear HC6
   try clear c1
   try clear c2
   try clear c2b0
   try clear c2b1
   try clear p2
   try clear c3
   try clear c7
   try clear c11
   try clear c12
   try clear c13
   try clear c19
   try clear c20
   try clear c23
   try clear c23b0
   try clear c23b1
   try clear c23b2
   try clear c25
   try clear c27
   try clear c28
   try clear c30
   try clear c35
   try clear c36
   try clear c38
   try clear hcz14_0
   try clear hcz14_1
   try clear hcz14_2
   try clear hcz14_3
   try clear hcz16_0
   try clear hcz16_1
   try clear hcz16_2
   try clear hcz16_3
   try clear hcz21_0
   try clear hcz21_1
   try clear hcz21_2
   try clear hcz21_3
   try clear hcz29_0
   try clear hcz29_1
   try clear hcz29_2
   try clear hcz29_3
   try clear hcz31_0
   try clear hcz31_1
   try clear hcz31_2
   try clear hcz31_3
   try clear hcz33_0
   try clear hcz33_1
   try clear hcz33_2
   try clear hcz33_3
   try clear hcz37_0
   try clear hcz37_1
   try clear hcz37_2
   try clear hcz37_3
   try clear hcz39_0
   try clear hcz39_1
   try clear hcz39_2
   try clear hcz39_3
   try clear hcz9_0
   try clear hcz9_1
   try clear hcz9_2
   try clear hcz9_3
   try clear hfz14_0
   try clear hfz14_1
   try clear hfz14_2
   try clear hfz14_3
   try clear hfz16_0
   try clear hfz16_1
   try clear hfz16_2
   try clear hfz16_3
   try clear hfz21_0
   try clear hfz21_1
   try clear hfz21_2
   try clear hfz21_3
   try clear hfz29_0
   try clear hfz29_1
   try clear hfz29_2
   try clear hfz29_3
   try clear hfz31_0
   try clear hfz31_1
   try clear hfz31_2
   try clear hfz31_3
   try clear hfz33_0
   try clear hfz33_1
   try clear hfz33_2
   try clear hfz33_3
   try clear hfz37_0
   try clear hfz37_1
   try clear hfz37_2
   try clear hfz37_3
   try clear hfz39_0
   try clear hfz39_1
   try clear hfz39_2
   try clear hfz39_3
   try clear hfz9_0
   try clear hfz9_1
   try clear hfz9_2
   try clear hfz9_3
   obtain ⟨kq,x44_5,rfl,HA,HJ5,HO_720001,HO_728001,HO_736001,BK719,BK727,BK735,HB⟩:=hcut
   cases kq with
   | zero=>exact absurd HA.out (by simp [laws_FnJoinAsk.j0])
   | succ kj5 =>
    have H:=HA.out
    clear HA
    simp only [laws_FnJoinAsk.j0] at H
    by_cases c41:x44_5 = true
    ·subst c41
     have H1:(if (t734 == t726) = true then ((laws_lpAddr.f kj5 t728 t729 t732 t733 t720 t721 t724 t725).bind fun t738=>(some t738)) else (some false)) = some r:=by rw [if_pos rfl] at H;exact H
     clear H
     have H:=H1
     clear H1
     by_cases c42:(t734 == t726) = true
     ·rw [if_pos c42] at H
      have c42b0:(t734 == t726) = true:=c42
      (try (have c42b1:decide (t734 = t726) = true:=by simpa using c42))
      (try (have c42b2:(t734 == t726) = true:=by simpa using c42))
      clear c42
      replace H:=bI H
      obtain ⟨t738,A430,H⟩:=H
      replace H:(some t738) = some r:=H
      have A43:=Am A430
      clear A430
      obtain rfl:=Option.some.inj H
      have hnb44:=NB735_719.out
      have hnc44:=NB719_735.out
      have hnb45:=NB735_727.out
      have hnc45:=NB727_735.out
      have hcz46_0:wc.cell? ⟨gb735,0,none⟩ = some (.string t728):=bM BK735.out 0 rfl
      have hcz46_1:wc.cell? ⟨gb735,1,none⟩ = some (.slice Ao22 t729.length co22):=bM BK735.out 1 rfl
      have hcz46_2:wc.cell? ⟨gb735,2,none⟩ = some (.bool t732):=bM BK735.out 2 rfl
      have hcz46_3:wc.cell? ⟨gb735,3,none⟩ = some (.string t733):=bM BK735.out 3 rfl
      have hfz46_0:=bZ BK735.out 0
      have hfz46_1:=bZ BK735.out 1
      have hfz46_2:=bZ BK735.out 2
      have hfz46_3:=bZ BK735.out 3
      have hnb47:=NB727_719.out
      have hnc47:=NB719_727.out
      have hcz48_0:wc.cell? ⟨gb727,0,none⟩ = some (.string t720):=bM BK727.out 0 rfl
      have hcz48_1:wc.cell? ⟨gb727,1,none⟩ = some (.slice Ao15 t721.length co15):=bM BK727.out 1 rfl
      have hcz48_2:wc.cell? ⟨gb727,2,none⟩ = some (.bool t724):=bM BK727.out 2 rfl
      have hcz48_3:wc.cell? ⟨gb727,3,none⟩ = some (.string t725):=bM BK727.out 3 rfl
      have hfz48_0:=bZ BK727.out 0
      have hfz48_1:=bZ BK727.out 1
      have hfz48_2:=bZ BK727.out 2
      have hfz48_3:=bZ BK727.out 3
      go_wp2_with (first|(go_at_call 14;(with_reducible refine (laws_lpAddr.calls kj5 t728 _ _ t729 t732 t733 t720 _ _ t721 t724 t725 t738 _ ?side1 ?side2 ?side3 ?side4 A43.out).mono ?_);(case side1=>repeat (first|exact (Kd.R_reads' HO_736001.out).2.2|(with_reducible refine bC ?_)));(case side2=>exact (Kd.R_reads' HO_736001.out).2.1);(case side3=>repeat (first|exact (Kd.R_reads' HO_728001.out).2.2|(with_reducible refine bC ?_)));(case side4=>exact (Kd.R_reads' HO_728001.out).2.1);rintro e w49 ⟨rfl,hb⟩;have n0_:=Am (Kd.R_below (bR HO_720001.out) hb);have n1_:=Am (Kd.R_below (bR HO_728001.out) hb);have n2_:=Am (Kd.R_below (bR HO_736001.out) hb);have n3_:=Am (blk_below (bB BK719.out) hb);have n4_:=Am (blk_below (bB BK727.out) hb);have n5_:=Am (blk_below (bB BK735.out) hb);have n6_:=Am (bT (by repeat (first|(with_reducible first|exact HB.out|apply bA|apply bN|apply bD|refine bS ?_ GE719.out|refine bS ?_ GE727.out|refine bS ?_ GE735.out)|exact HB.out)) hb);clear HO_720001 HO_728001 HO_736001 BK719 BK727 BK735 HB;have HO_720001:=n0_;have HO_728001:=n1_;have HO_736001:=n2_;have BK719:=n3_;have BK727:=n4_;have BK735:=n5_;have HB:=n6_;clear n0_ n1_ n2_ n3_ n4_ n5_ n6_;(try clear hb)))
      go_ret
      exact ⟨by first|rfl|(simp <;> rfl)|(simp [*] <;> rfl),by repeat (first|(with_reducible first|exact HB.out|apply bA|apply bN|apply bD|refine bS ?_ GE719.out|refine bS ?_ GE727.out|refine bS ?_ GE735.out)|exact HB.out)⟩
     ·rw [if_neg c42] at H
      have c42b0:(t734 == t726) = false:=by simpa using c42
      (try (have c42b1:decide (t734 = t726) = false:=by simpa using c42))
      (try (have c42b2:(t734 == t726) = false:=by simpa using c42))
      (try (have c42b3:¬ (t734 = t726):=by simpa using c42))
      clear c42
      obtain rfl:=Option.some.inj H
      go_wp2
      go_ret
      exact ⟨by first|rfl|(simp <;> rfl)|(simp [*] <;> rfl),by repeat (first|(with_reducible first|exact HB.out|apply bA|apply bN|apply bD|refine bS ?_ GE719.out|refine bS ?_ GE727.out|refine bS ?_ GE735.out)|exact HB.out)⟩
    ·replace c41:=Bool.eq_false_iff.mpr c41
     subst c41
     have H1:((impl_AddrJoin.f kj5 t712 t713 t716 t717 (⟨#[63,113]⟩:ByteArray)).bind fun bt739=>(if bt739.2.2.2.2 = true then ((laws_lpAddr.f kj5 bt739.1 bt739.2.1 bt739.2.2.1 bt739.2.2.2.1 t712 t713 true (⟨#[113]⟩:ByteArray)).bind fun t747=>(some t747)) else (some true))) = some r:=by rw [if_neg (show ¬ (false = true) by decide)] at H;exact H
     clear H
     have H:=H1
     clear H1
     replace H:=bI H
     obtain ⟨⟨t739,t740,t743,t744,t745⟩,A500,H⟩:=H
     replace H:(if t745 = true then ((laws_lpAddr.f kj5 t739 t740 t743 t744 t712 t713 true (⟨#[113]⟩:ByteArray)).bind fun t747=>(some t747)) else (some true)) = some r:=H
     have A50:=Am A500
     clear A500
     by_cases c51:t745 = true
     ·subst c51
      have H1:((laws_lpAddr.f kj5 t739 t740 t743 t744 t712 t713 true (⟨#[113]⟩:ByteArray)).bind fun t747=>(some t747)) = some r:=by rw [if_pos rfl] at H;exact H
      clear H
      have H:=H1
      clear H1
      replace H:=bI H
      obtain ⟨t747,A520,H⟩:=H
      replace H:(some t747) = some r:=H
      have A52:=Am A520
      clear A520
      obtain rfl:=Option.some.inj H
      have hnb53:=NB719_727.out
      have hnc53:=NB727_719.out
      have hnb54:=NB719_735.out
      have hnc54:=NB735_719.out
      have hcz55_0:wc.cell? ⟨gb719,0,none⟩ = some (.string t712):=bM BK719.out 0 rfl
      have hcz55_1:wc.cell? ⟨gb719,1,none⟩ = some (.slice Ao10 t713.length co10):=bM BK719.out 1 rfl
      have hcz55_2:wc.cell? ⟨gb719,2,none⟩ = some (.bool t716):=bM BK719.out 2 rfl
      have hcz55_3:wc.cell? ⟨gb719,3,none⟩ = some (.string t717):=bM BK719.out 3 rfl
      have hfz55_0:=bZ BK719.out 0
      have hfz55_1:=bZ BK719.out 1
      have hfz55_2:=bZ BK719.out 2
      have hfz55_3:=bZ BK719.out 3
      go_wp2_with (first|((with_reducible refine gate_callee (f:=13) rfl ?_);refine goesL_ (some 55) rfl rfl Tryd.func13 (by kernel_rfl) rfl #[.agg #[.string t712, .slice Ao10 t713.length co10, .bool t716, .string t717], .string (⟨#[63,113]⟩:ByteArray)] rfl (aE2 rfl rfl) ?_;(with_reducible refine (impl_AddrJoin.calls kj5 t712 _ _ t713 t716 t717 (⟨#[63,113]⟩:ByteArray) t739 t740 t743 t744 true _ ?side1 ?side2 A50.out).mono ?_);(case side1=>repeat (first|exact (Kd.R_reads' HO_720001.out).2.2|(with_reducible refine bC ?_)));(case side2=>exact (Kd.R_reads' HO_720001.out).2.1);rintro e w56 ⟨v741,rfl,ho0,hb⟩;refine ⟨_,rfl,?_⟩;have n0_:=Am (Kd.R_elder' (bR HO_720001.out) (Kd.R_base ho0) hb);have n1_:=Am (Kd.R_elder' (bR HO_728001.out) (Kd.R_base ho0) hb);have n2_:=Am (Kd.R_elder' (bR HO_736001.out) (Kd.R_base ho0) hb);have n3_:=Am (Kd.R_lower (Kd.R_new' (Kd.R_new' (Kd.R_new' ho0 (Kd.R_lt (bR HO_720001.out))) (Kd.R_lt (bR HO_728001.out))) (Kd.R_lt (bR HO_736001.out))) (bU (by repeat (first|(with_reducible first|exact HB.out|apply bA|apply bN|apply bD|refine bS ?_ GE719.out|refine bS ?_ GE727.out|refine bS ?_ GE735.out)|exact HB.out))));have n4_:=Am (blk_below (bB BK719.out) hb);have n5_:=Am (blk_below (bB BK727.out) hb);have n6_:=Am (blk_below (bB BK735.out) hb);have n7_:=Am (bT (by repeat (first|(with_reducible first|exact HB.out|apply bA|apply bN|apply bD|refine bS ?_ GE719.out|refine bS ?_ GE727.out|refine bS ?_ GE735.out)|exact HB.out)) hb);clear HO_720001 HO_728001 HO_736001 BK719 BK727 BK735 HB;have HO_720001:=n0_;have HO_728001:=n1_;have HO_736001:=n2_;have HO742:=n3_;have BK719:=n4_;have BK727:=n5_;have BK735:=n6_;have HB:=n7_;clear n0_ n1_ n2_ n3_ n4_ n5_ n6_ n7_;(try clear hb);(try clear ho0))|((with_reducible refine gate_dst (N:=9) rfl ?_);refine box_event ?hg (N:=9) ?hd (cs:=#[.string (⟨#[]⟩:ByteArray), .slice none 0 0, .bool false, .string (⟨#[]⟩:ByteArray)]) (t:=25) ?hr ?_;(case hd=>rfl);(case hg=>rfl);(case hr=>(go_simp <;> rfl));intro gb746 hg w57 hbox hb;have n0_:=Am (Kd.R_below (bR HO_720001.out) hb);have n1_:=Am (Kd.R_below (bR HO_728001.out) hb);have n2_:=Am (Kd.R_below (bR HO_736001.out) hb);have n3_:=Am (Kd.R_below (bR HO742.out) hb);have n4_:=Am (blk_below (bB BK719.out) hb);have n5_:=Am (blk_below (bB BK727.out) hb);have n6_:=Am (blk_below (bB BK735.out) hb);have n7_:=Am (bT (by repeat (first|(with_reducible first|exact HB.out|apply bA|apply bN|apply bD|refine bS ?_ GE719.out|refine bS ?_ GE727.out|refine bS ?_ GE735.out)|exact HB.out)) hb);have n8_:=Am (hbox);have n9_:=Am ((by rw [hg];exact (bU (by repeat (first|(with_reducible first|exact HB.out|apply bA|apply bN|apply bD|refine bS ?_ GE719.out|refine bS ?_ GE727.out|refine bS ?_ GE735.out)|exact HB.out))):w.heap.size ≤ gb746));have n10_:=n9_;have n11_:=Am ((by rw [hg];exact Nat.ne_of_lt (blk_lt (bB BK719.out)):gb719 ≠ gb746));have n12_:=Am ((by rw [hg];exact Nat.ne_of_gt (blk_lt (bB BK719.out)):gb746 ≠ gb719));have n13_:=Am ((by rw [hg];exact Nat.ne_of_lt (blk_lt (bB BK727.out)):gb727 ≠ gb746));have n14_:=Am ((by rw [hg];exact Nat.ne_of_gt (blk_lt (bB BK727.out)):gb746 ≠ gb727));have n15_:=Am ((by rw [hg];exact Nat.ne_of_lt (blk_lt (bB BK735.out)):gb735 ≠ gb746));have n16_:=Am ((by rw [hg];exact Nat.ne_of_gt (blk_lt (bB BK735.out)):gb746 ≠ gb735));clear HO_720001 HO_728001 HO_736001 HO742 BK719 BK727 BK735 HB;have HO_720001:=n0_;have HO_728001:=n1_;have HO_736001:=n2_;have HO742:=n3_;have BK719:=n4_;have BK727:=n5_;have BK735:=n6_;have HB:=n7_;have BK746:=n8_;have GW746:=n9_;have GE746:=n10_;have NB719_746:=n11_;have NB746_719:=n12_;have NB727_746:=n13_;have NB746_727:=n14_;have NB735_746:=n15_;have NB746_735:=n16_;clear n0_ n1_ n2_ n3_ n4_ n5_ n6_ n7_ n8_ n9_ n10_ n11_ n12_ n13_ n14_ n15_ n16_ hb hbox hg;have hnb58:=NB746_719.out;have hnc58:=NB719_746.out;have hnb59:=NB746_727.out;have hnc59:=NB727_746.out;have hnb60:=NB746_735.out;have hnc60:=NB735_746.out;have hcz61_0:w57.cell? ⟨gb746,0,none⟩ = some (.string (⟨#[]⟩:ByteArray)):=bM BK746.out 0 rfl;have hcz61_1:w57.cell? ⟨gb746,1,none⟩ = some (.slice none 0 0):=bM BK746.out 1 rfl;have hcz61_2:w57.cell? ⟨gb746,2,none⟩ = some (.bool false):=bM BK746.out 2 rfl;have hcz61_3:w57.cell? ⟨gb746,3,none⟩ = some (.string (⟨#[]⟩:ByteArray)):=bM BK746.out 3 rfl;have hfz61_0:=bZ BK746.out 0;have hfz61_1:=bZ BK746.out 1;have hfz61_2:=bZ BK746.out 2;have hfz61_3:=bZ BK746.out 3;obtain ⟨Ao62,co62,eo62⟩:=Kd.R_slice HO742.out;subst eo62;have hcz63_0:w57.cell? ⟨gb719,0,none⟩ = some (.string t712):=bM BK719.out 0 rfl;have hcz63_1:w57.cell? ⟨gb719,1,none⟩ = some (.slice Ao10 t713.length co10):=bM BK719.out 1 rfl;have hcz63_2:w57.cell? ⟨gb719,2,none⟩ = some (.bool t716):=bM BK719.out 2 rfl;have hcz63_3:w57.cell? ⟨gb719,3,none⟩ = some (.string t717):=bM BK719.out 3 rfl;have hfz63_0:=bZ BK719.out 0;have hfz63_1:=bZ BK719.out 1;have hfz63_2:=bZ BK719.out 2;have hfz63_3:=bZ BK719.out 3)|(go_at_call 14;(with_reducible refine (laws_lpAddr.calls kj5 t739 _ _ t740 t743 t744 t712 _ _ t713 true (⟨#[113]⟩:ByteArray) t747 _ ?side1 ?side2 ?side3 ?side4 A52.out).mono ?_);(case side1=>refine (Kd.R_reads' (e:=9) (base:=w.heap.size) (ok:=fun k_=>(((True ∧ some k_ ≠ (.slice Ao10 t713.length co10:Value).ownBlock) ∧ some k_ ≠ (.slice Ao15 t721.length co15:Value).ownBlock) ∧ some k_ ≠ (.slice Ao22 t729.length co22:Value).ownBlock)) (n:=t740.length) (c:=co62) ?_).2.2;exact (by (with_reducible repeat (first|apply rA|apply rN|apply rD));exact (bQ HO742.out BK746.out (by decide) _ _ _ _)));(case side2=>exact (Kd.R_reads' HO742.out).2.1);(case side3=>refine (Kd.R_reads' (e:=9) (base:=w.heap.size) (ok:=fun k_=>((some k_ ≠ (.slice Ao15 t721.length co15:Value).ownBlock ∧ some k_ ≠ (.slice Ao22 t729.length co22:Value).ownBlock) ∧ some k_ ≠ (.slice Ao62 t740.length co62:Value).ownBlock)) (n:=t713.length) (c:=co10) ?_).2.2;exact (by (with_reducible repeat (first|apply rA|apply rN|apply rD));exact (bQ HO_720001.out BK746.out (by decide) _ _ _ _)));(case side4=>exact (Kd.R_reads' HO_720001.out).2.1);rintro e w64 ⟨rfl,hb⟩;have n0_:=Am (Kd.R_below (by (with_reducible repeat (first|apply rA|apply rN|apply rD));exact (bQ HO_720001.out BK746.out (by decide) _ _ _ _)) hb);have n1_:=Am (Kd.R_below (by (with_reducible repeat (first|apply rA|apply rN|apply rD));exact (bQ HO_728001.out BK746.out (by decide) _ _ _ _)) hb);have n2_:=Am (Kd.R_below (by (with_reducible repeat (first|apply rA|apply rN|apply rD));exact (bQ HO_736001.out BK746.out (by decide) _ _ _ _)) hb);have n3_:=Am (Kd.R_below (by (with_reducible repeat (first|apply rA|apply rN|apply rD));exact (bQ HO742.out BK746.out (by decide) _ _ _ _)) hb);have n4_:=Am (blk_below (g:=gb719) (o:=.cells #[.string t712, .slice Ao10 t713.length co10, .bool t716, .string t717] 25 (0,0)) (by refine bB ?_;refine bF ?_ NB719_746.out;refine bB ?_;exact BK719.out) hb);have n5_:=Am (blk_below (g:=gb727) (o:=.cells #[.string t720, .slice Ao15 t721.length co15, .bool t724, .string t725] 25 (0,0)) (by refine bB ?_;refine bF ?_ NB727_746.out;refine bB ?_;exact BK727.out) hb);have n6_:=Am (blk_below (g:=gb735) (o:=.cells #[.string t728, .slice Ao22 t729.length co22, .bool t732, .string t733] 25 (0,0)) (by refine bB ?_;refine bF ?_ NB735_746.out;refine bB ?_;exact BK735.out) hb);have n7_:=Am (blk_below (g:=gb746) (o:=.cells #[.string t739, .slice Ao62 t740.length co62, .bool t743, .string t744] 25 (0,0)) (by refine bB ?_;apply bP;refine bB ?_;exact BK746.out) hb);have n8_:=Am (bT (by repeat (first|(with_reducible first|exact HB.out|apply bA|apply bN|apply bD|refine bS ?_ GE719.out|refine bS ?_ GE727.out|refine bS ?_ GE735.out|refine bS ?_ GE746.out)|exact HB.out)) hb);clear HO_720001 HO_728001 HO_736001 HO742 BK719 BK727 BK735 BK746 HB;have HO_720001:=n0_;have HO_728001:=n1_;have HO_736001:=n2_;have HO742:=n3_;have BK719:=n4_;have BK727:=n5_;have BK735:=n6_;have BK746:=n7_;have HB:=n8_;clear n0_ n1_ n2_ n3_ n4_ n5_ n6_ n7_ n8_;(try clear hb)))
      go_ret
      exact ⟨by first|rfl|(simp <;> rfl)|(simp [*] <;> rfl),by repeat (first|(with_reducible first|exact HB.out|apply bA|apply bN|apply bD|refine bS ?_ GE719.out|refine bS ?_ GE727.out|refine bS ?_ GE735.out|refine bS ?_ GE746.out)|exact HB.out)⟩
     ·replace c51:=Bool.eq_false_iff.mpr c51
      subst c51
      have H1:(some true) = some r:=by rw [if_neg (show ¬ (false = true) by decide)] at H;exact H
      clear H
      have H:=H1
      clear H1
      obtain rfl:=Option.some.inj H
      have hnb65:=NB719_727.out
      have hnc65:=NB727_719.out
      have hnb66:=NB719_735.out
      have hnc66:=NB735_719.out
      have hcz67_0:wc.cell? ⟨gb719,0,none⟩ = some (.string t712):=bM BK719.out 0 rfl
      have hcz67_1:wc.cell? ⟨gb719,1,none⟩ = some (.slice Ao10 t713.length co10):=bM BK719.out 1 rfl
      have hcz67_2:wc.cell? ⟨gb719,2,none⟩ = some (.bool t716):=bM BK719.out 2 rfl
      have hcz67_3:wc.cell? ⟨gb719,3,none⟩ = some (.string t717):=bM BK719.out 3 rfl
      have hfz67_0:=bZ BK719.out 0
      have hfz67_1:=bZ BK719.out 1
      have hfz67_2:=bZ BK719.out 2
      have hfz67_3:=bZ BK719.out 3
      go_wp2_with (first|((with_reducible refine gate_callee (f:=13) rfl ?_);refine goesL_ (some 55) rfl rfl Tryd.func13 (by kernel_rfl) rfl #[.agg #[.string t712, .slice Ao10 t713.length co10, .bool t716, .string t717], .string (⟨#[63,113]⟩:ByteArray)] rfl (aE2 rfl rfl) ?_;(with_reducible refine (impl_AddrJoin.calls kj5 t712 _ _ t713 t716 t717 (⟨#[63,113]⟩:ByteArray) t739 t740 t743 t744 false _ ?side1 ?side2 A50.out).mono ?_);(case side1=>repeat (first|exact (Kd.R_reads' HO_720001.out).2.2|(with_reducible refine bC ?_)));(case side2=>exact (Kd.R_reads' HO_720001.out).2.1);rintro e w68 ⟨v741,rfl,ho0,hb⟩;refine ⟨_,rfl,?_⟩;have n0_:=Am (Kd.R_elder' (bR HO_720001.out) (Kd.R_base ho0) hb);have n1_:=Am (Kd.R_elder' (bR HO_728001.out) (Kd.R_base ho0) hb);have n2_:=Am (Kd.R_elder' (bR HO_736001.out) (Kd.R_base ho0) hb);have n3_:=Am (Kd.R_lower (Kd.R_new' (Kd.R_new' (Kd.R_new' ho0 (Kd.R_lt (bR HO_720001.out))) (Kd.R_lt (bR HO_728001.out))) (Kd.R_lt (bR HO_736001.out))) (bU (by repeat (first|(with_reducible first|exact HB.out|apply bA|apply bN|apply bD|refine bS ?_ GE719.out|refine bS ?_ GE727.out|refine bS ?_ GE735.out)|exact HB.out))));have n4_:=Am (blk_below (bB BK719.out) hb);have n5_:=Am (blk_below (bB BK727.out) hb);have n6_:=Am (blk_below (bB BK735.out) hb);have n7_:=Am (bT (by repeat (first|(with_reducible first|exact HB.out|apply bA|apply bN|apply bD|refine bS ?_ GE719.out|refine bS ?_ GE727.out|refine bS ?_ GE735.out)|exact HB.out)) hb);clear HO_720001 HO_728001 HO_736001 BK719 BK727 BK735 HB;have HO_720001:=n0_;have HO_728001:=n1_;have HO_736001:=n2_;have HO742:=n3_;have BK719:=n4_;have BK727:=n5_;have BK735:=n6_;have HB:=n7_;clear n0_ n1_ n2_ n3_ n4_ n5_ n6_ n7_;(try clear hb);(try clear ho0))|((with_reducible refine gate_dst (N:=9) rfl ?_);refine box_event ?hg (N:=9) ?hd (cs:=#[.string (⟨#[]⟩:ByteArray), .slice none 0 0, .bool false, .string (⟨#[]⟩:ByteArray)]) (t:=25) ?hr ?_;(case hd=>rfl);(case hg=>rfl);(case hr=>(go_simp <;> rfl));intro gb746 hg w69 hbox hb;have n0_:=Am (Kd.R_below (bR HO_720001.out) hb);have n1_:=Am (Kd.R_below (bR HO_728001.out) hb);have n2_:=Am (Kd.R_below (bR HO_736001.out) hb);have n3_:=Am (Kd.R_below (bR HO742.out) hb);have n4_:=Am (blk_below (bB BK719.out) hb);have n5_:=Am (blk_below (bB BK727.out) hb);have n6_:=Am (blk_below (bB BK735.out) hb);have n7_:=Am (bT (by repeat (first|(with_reducible first|exact HB.out|apply bA|apply bN|apply bD|refine bS ?_ GE719.out|refine bS ?_ GE727.out|refine bS ?_ GE735.out)|exact HB.out)) hb);have n8_:=Am (hbox);have n9_:=Am ((by rw [hg];exact (bU (by repeat (first|(with_reducible first|exact HB.out|apply bA|apply bN|apply bD|refine bS ?_ GE719.out|refine bS ?_ GE727.out|refine bS ?_ GE735.out)|exact HB.out))):w.heap.size ≤ gb746));have n10_:=n9_;have n11_:=Am ((by rw [hg];exact Nat.ne_of_lt (blk_lt (bB BK719.out)):gb719 ≠ gb746));have n12_:=Am ((by rw [hg];exact Nat.ne_of_gt (blk_lt (bB BK719.out)):gb746 ≠ gb719));have n13_:=Am ((by rw [hg];exact Nat.ne_of_lt (blk_lt (bB BK727.out)):gb727 ≠ gb746));have n14_:=Am ((by rw [hg];exact Nat.ne_of_gt (blk_lt (bB BK727.out)):gb746 ≠ gb727));have n15_:=Am ((by rw [hg];exact Nat.ne_of_lt (blk_lt (bB BK735.out)):gb735 ≠ gb746));have n16_:=Am ((by rw [hg];exact Nat.ne_of_gt (blk_lt (bB BK735.out)):gb746 ≠ gb735));clear HO_720001 HO_728001 HO_736001 HO742 BK719 BK727 BK735 HB;have HO_720001:=n0_;have HO_728001:=n1_;have HO_736001:=n2_;have HO742:=n3_;have BK719:=n4_;have BK727:=n5_;have BK735:=n6_;have HB:=n7_;have BK746:=n8_;have GW746:=n9_;have GE746:=n10_;have NB719_746:=n11_;have NB746_719:=n12_;have NB727_746:=n13_;have NB746_727:=n14_;have NB735_746:=n15_;have NB746_735:=n16_;clear n0_ n1_ n2_ n3_ n4_ n5_ n6_ n7_ n8_ n9_ n10_ n11_ n12_ n13_ n14_ n15_ n16_ hb hbox hg;have hnb70:=NB746_719.out;have hnc70:=NB719_746.out;have hnb71:=NB746_727.out;have hnc71:=NB727_746.out;have hnb72:=NB746_735.out;have hnc72:=NB735_746.out;have hcz73_0:w69.cell? ⟨gb746,0,none⟩ = some (.string (⟨#[]⟩:ByteArray)):=bM BK746.out 0 rfl;have hcz73_1:w69.cell? ⟨gb746,1,none⟩ = some (.slice none 0 0):=bM BK746.out 1 rfl;have hcz73_2:w69.cell? ⟨gb746,2,none⟩ = some (.bool false):=bM BK746.out 2 rfl;have hcz73_3:w69.cell? ⟨gb746,3,none⟩ = some (.string (⟨#[]⟩:ByteArray)):=bM BK746.out 3 rfl;have hfz73_0:=bZ BK746.out 0;have hfz73_1:=bZ BK746.out 1;have hfz73_2:=bZ BK746.out 2;have hfz73_3:=bZ BK746.out 3;obtain ⟨Ao74,co74,eo74⟩:=Kd.R_slice HO742.out;subst eo74))
      go_ret
      exact ⟨by first|rfl|(simp <;> rfl)|(simp [*] <;> rfl),by repeat (first|(with_reducible first|exact HB.out|apply bA|apply bN|apply bD|refine bS ?_ GE719.out|refine bS ?_ GE727.out|refine bS ?_ GE735.out|refine bS ?_ GE746.out)|exact HB.out)⟩

def laws_FnJoinAsk.Pure:Prop:=∀ (l0:List Int),l0.length ≤ maxLen → l0.length * 1 ≤ 140737488351232 → (∀ x ∈ l0,(Lit.int .u8 x).wf = true) → ∃ k,laws_FnJoinAsk.f k l0 = some true
end Go.Proofs.YtbnnamjaljohiaaDoor.P
