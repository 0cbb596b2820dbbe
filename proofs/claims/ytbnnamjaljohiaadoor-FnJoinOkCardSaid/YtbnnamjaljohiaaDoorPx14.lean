-- Written by a program of this session (patch_print.py over the kit's print; given texts in wip/given).
-- Cut down by a program of this session (wip/tools/prune.py) to what its claim can name.
import Derived.Test.YtbnnamjaljohiaaDoorSq
import Derived.Test.YtbnnamjaljohiaaDoorPx0
import Derived.Test.YtbnnamjaljohiaaDoorPx4
import Derived.Test.YtbnnamjaljohiaaDoorPx6
import Derived.Test.YtbnnamjaljohiaaDoorPx7
import Derived.Test.YtbnnamjaljohiaaDoorPx8
namespace Go.Proofs.YtbnnamjaljohiaaDoor.P
open Go.RowKit Go.Proofs.YtbnnamjaljohiaaDoorW.PrintWords Go.Proofs.YtbnnamjaljohiaaDoorW.PrintLast Go.Proofs.YtbnnamjaljohiaaDoorW.PrintMore
attribute [local go_sem] max2_int min2_int max_two min_two max_three min_three max_four min_four   -- for this text's walks alone
set_option linter.unusedVariables false
set_option linter.unusedSimpArgs false
set_option maxHeartbeats 8000000
set_option maxRecDepth 100000

def laws_FnJoinOk.j0:Nat → ByteArray → Bool → Bool → Bool → ByteArray → List ByteArray → Bool → ByteArray → ByteArray → List ByteArray → Bool → ByteArray → ByteArray → List ByteArray → Bool → ByteArray → Option (Bool)
 | 0,_,_,_,_,_,_,_,_,_,_,_,_,_,_,_,_=>none
 | k + 1,x4,x6,x8,x42,x814000,x814001,x814002,x814003,x822000,x822001,x822002,x822003,x830000,x830001,x830002,x830003=>if x42 = true then (if (x8 == x6) = true then ((laws_lpAddr.f k x830000 x830001 x830002 x830003 x822000 x822001 x822002 x822003).bind fun t831=>(some t831)) else (some false)) else (if (x4.size:Int) ≥ 2 then (if 0 ≤ 2 then (if 2 ≤ (x4.size:Int) then ((impl_AddrOk.f k x830000 x830001 x830002 x830003).bind fun t832=>(if t832 = true then (if (x4.extract 0 2).toList = ([47,47]:List UInt8) then (some true) else (some (x830000.toList == x814000.toList))) else (some false))) else (none)) else (none)) else ((impl_AddrOk.f k x830000 x830001 x830002 x830003).bind fun t833=>(if t833 = true then (some (x830000.toList == x814000.toList)) else (some false))))
def laws_FnJoinOk.f (k:Nat) (l0:List Int):Option (Bool):=if (l0.length:Int) > 1048576 then (some true) else ((spec_DrawAddrJoin.f k l0).bind fun bt806=>((spec_AddrJoin.f k bt806.1 bt806.2.1 bt806.2.2.1 bt806.2.2.2.1 bt806.2.2.2.2).bind fun bt814=>((impl_AddrJoin.f k bt806.1 bt806.2.1 bt806.2.2.1 bt806.2.2.2.1 bt806.2.2.2.2).bind fun bt822=>(if (bt822.2.2.2.2 != bt814.2.2.2.2) = true then (laws_FnJoinOk.j0 k bt806.2.2.2.2 bt814.2.2.2.2 bt822.2.2.2.2 true bt806.1 bt806.2.1 bt806.2.2.1 bt806.2.2.2.1 bt814.1 bt814.2.1 bt814.2.2.1 bt814.2.2.2.1 bt822.1 bt822.2.1 bt822.2.2.1 bt822.2.2.2.1) else ((laws_lpAddr.f k bt822.1 bt822.2.1 bt822.2.2.1 bt822.2.2.2.1 bt814.1 bt814.2.1 bt814.2.2.1 bt814.2.2.2.1).bind fun t830=>(if t830 = true then (laws_FnJoinOk.j0 k bt806.2.2.2.2 bt814.2.2.2.2 bt822.2.2.2.2 (!bt822.2.2.2.2) bt806.1 bt806.2.1 bt806.2.2.1 bt806.2.2.2.1 bt814.1 bt814.2.1 bt814.2.2.1 bt814.2.2.2.1 bt822.1 bt822.2.1 bt822.2.2.1 bt822.2.2.2.1) else (laws_FnJoinOk.j0 k bt806.2.2.2.2 bt814.2.2.2.2 bt822.2.2.2.2 true bt806.1 bt806.2.1 bt806.2.2.1 bt806.2.2.2.1 bt814.1 bt814.2.1 bt814.2.2.1 bt814.2.2.2.1 bt822.1 bt822.2.1 bt822.2.2.1 bt822.2.2.2.1)))))))
theorem laws_FnJoinOk.mono_l:∀ k,(∀ y0 y1 y2 y3 y4 y5 y6 y7 y8 y9 y10 y11 y12 y13 y14 y15,LeO (laws_FnJoinOk.j0 k y0 y1 y2 y3 y4 y5 y6 y7 y8 y9 y10 y11 y12 y13 y14 y15) (laws_FnJoinOk.j0 (k + 1) y0 y1 y2 y3 y4 y5 y6 y7 y8 y9 y10 y11 y12 y13 y14 y15))
 | 0=>fun _ _ _ _ _ _ _ _ _ _ _ _ _ _ _ _ r h=>by simp [laws_FnJoinOk.j0] at h
 | k + 1=>by
  have ih0:=laws_FnJoinOk.mono_l k
  ·intro y0 y1 y2 y3 y4 y5 y6 y7 y8 y9 y10 y11 y12 y13 y14 y15
   unfold laws_FnJoinOk.j0
   repeat' first
   | (with_reducible apply ih0)
   | (with_reducible apply impl_AddrJoin.mono)
   | (with_reducible apply impl_AddrOk.mono)
   | (with_reducible apply laws_lpAddr.mono)
   | (with_reducible apply spec_AddrJoin.mono)
   | (with_reducible apply spec_DrawAddrJoin.mono)
   | (with_reducible exact LeO.refl _)
   | (with_reducible exact LeO.none _)
   | (with_reducible refine LeO.ite ?_ ?_)
   | (with_reducible refine LeO.bind ?_ (fun _=>?_))
   | exact ih0 _ _ _ _ _ _ _ _ _ _ _ _ _ _ _ _
   | exact impl_AddrJoin.mono _ _ _ _ _ _
   | exact impl_AddrOk.mono _ _ _ _ _
   | exact laws_lpAddr.mono _ _ _ _ _ _ _ _ _
   | exact spec_AddrJoin.mono _ _ _ _ _ _
   | exact spec_DrawAddrJoin.mono _ _
   | exact LeO.none _
   | refine LeO.ite ?_ ?_
   | refine LeO.bind ?_ (fun _=>?_)
theorem laws_FnJoinOk.mono:∀ a0 k,LeO (laws_FnJoinOk.f k a0) (laws_FnJoinOk.f (k + 1) a0):=by
 intro a0 k
 have ih0:=laws_FnJoinOk.mono_l k
 unfold laws_FnJoinOk.f
 repeat' first
   | (with_reducible apply ih0)
   | (with_reducible apply impl_AddrJoin.mono)
   | (with_reducible apply impl_AddrOk.mono)
   | (with_reducible apply laws_lpAddr.mono)
   | (with_reducible apply spec_AddrJoin.mono)
   | (with_reducible apply spec_DrawAddrJoin.mono)
   | (with_reducible exact LeO.refl _)
   | (with_reducible exact LeO.none _)
   | (with_reducible refine LeO.ite ?_ ?_)
   | (with_reducible refine LeO.bind ?_ (fun _=>?_))
   | exact ih0 _ _ _ _ _ _ _ _ _ _ _ _ _ _ _ _
   | exact impl_AddrJoin.mono _ _ _ _ _ _
   | exact impl_AddrOk.mono _ _ _ _ _
   | exact laws_lpAddr.mono _ _ _ _ _ _ _ _ _
   | exact spec_AddrJoin.mono _ _ _ _ _ _
   | exact spec_DrawAddrJoin.mono _ _
   | exact LeO.none _
   | refine LeO.ite ?_ ?_
   | refine LeO.bind ?_ (fun _=>?_)
theorem laws_FnJoinOk.calls (k:Nat) (A0:Option Addr) (c0:Nat) (l0:List Int) (r:Bool) (w:World) (hr0:Kd.C (Kd.int .u8) w A0 l0.length l0) (hc0:l0.length ≤ c0) (h:laws_FnJoinOk.f k l0 = some r) :
  Calls Tryd.prog 9 #[.slice A0 l0.length c0] w fun e w'=>e = .returned (.bool r) ∧ Below w.heap.size w w':=by
 have hu25:=Tryd.underlying25
 have HR0:=Am hr0
 have HC0:=Am hc0
 clear hr0 hc0
 have HB:=Am (Below.refl w.heap.size w)
 have H:(if (l0.length:Int) > 1048576 then (some true) else ((spec_DrawAddrJoin.f k l0).bind fun bt806=>((spec_AddrJoin.f k bt806.1 bt806.2.1 bt806.2.2.1 bt806.2.2.2.1 bt806.2.2.2.2).bind fun bt814=>((impl_AddrJoin.f k bt806.1 bt806.2.1 bt806.2.2.1 bt806.2.2.2.1 bt806.2.2.2.2).bind fun bt822=>(if (bt822.2.2.2.2 != bt814.2.2.2.2) = true then (laws_FnJoinOk.j0 k bt806.2.2.2.2 bt814.2.2.2.2 bt822.2.2.2.2 true bt806.1 bt806.2.1 bt806.2.2.1 bt806.2.2.2.1 bt814.1 bt814.2.1 bt814.2.2.1 bt814.2.2.2.1 bt822.1 bt822.2.1 bt822.2.2.1 bt822.2.2.2.1) else ((laws_lpAddr.f k bt822.1 bt822.2.1 bt822.2.2.1 bt822.2.2.2.1 bt814.1 bt814.2.1 bt814.2.2.1 bt814.2.2.2.1).bind fun t830=>(if t830 = true then (laws_FnJoinOk.j0 k bt806.2.2.2.2 bt814.2.2.2.2 bt822.2.2.2.2 (!bt822.2.2.2.2) bt806.1 bt806.2.1 bt806.2.2.1 bt806.2.2.2.1 bt814.1 bt814.2.1 bt814.2.2.1 bt814.2.2.2.1 bt822.1 bt822.2.1 bt822.2.2.1 bt822.2.2.2.1) else (laws_FnJoinOk.j0 k bt806.2.2.2.2 bt814.2.2.2.2 bt822.2.2.2.2 true bt806.1 bt806.2.1 bt806.2.2.1 bt806.2.2.2.1 bt814.1 bt814.2.1 bt814.2.2.1 bt814.2.2.2.1 bt822.1 bt822.2.1 bt822.2.2.1 bt822.2.2.2.1)))))))) = some r:=h
 clear h
 by_cases c2:(l0.length:Int) > 1048576
 ·rw [if_pos c2] at H
  have c2b0:decide (1048576 < (l0.length:Int)) = true:=decide_eq_true c2
  have c2b1:decide (1048576 < l0.length) = true:=decide_eq_true (by omega)
  clear c2
  obtain rfl:=Option.some.inj H
  go_enter Tryd.func9,Tryd.ntmps9
  go_wp2
  go_ret
  exact ⟨by first|rfl|(simp <;> rfl)|(simp [*] <;> rfl),by repeat (first|(with_reducible first|exact HB.out|apply bA|apply bN|apply bD)|exact HB.out)⟩
 ·rw [if_neg c2] at H
  have c2b0:decide (1048576 < (l0.length:Int)) = false:=decide_eq_false c2
  have c2b1:decide (1048576 < l0.length) = false:=decide_eq_false (by omega)
  clear c2
  replace H:=bI H
  obtain ⟨⟨t806,t807,t810,t811,t812⟩,A30,H⟩:=H
  replace H:((spec_AddrJoin.f k t806 t807 t810 t811 t812).bind fun bt814=>((impl_AddrJoin.f k t806 t807 t810 t811 t812).bind fun bt822=>(if (bt822.2.2.2.2 != bt814.2.2.2.2) = true then (laws_FnJoinOk.j0 k t812 bt814.2.2.2.2 bt822.2.2.2.2 true t806 t807 t810 t811 bt814.1 bt814.2.1 bt814.2.2.1 bt814.2.2.2.1 bt822.1 bt822.2.1 bt822.2.2.1 bt822.2.2.2.1) else ((laws_lpAddr.f k bt822.1 bt822.2.1 bt822.2.2.1 bt822.2.2.2.1 bt814.1 bt814.2.1 bt814.2.2.1 bt814.2.2.2.1).bind fun t830=>(if t830 = true then (laws_FnJoinOk.j0 k t812 bt814.2.2.2.2 bt822.2.2.2.2 (!bt822.2.2.2.2) t806 t807 t810 t811 bt814.1 bt814.2.1 bt814.2.2.1 bt814.2.2.2.1 bt822.1 bt822.2.1 bt822.2.2.1 bt822.2.2.2.1) else (laws_FnJoinOk.j0 k t812 bt814.2.2.2.2 bt822.2.2.2.2 true t806 t807 t810 t811 bt814.1 bt814.2.1 bt814.2.2.1 bt814.2.2.2.1 bt822.1 bt822.2.1 bt822.2.2.1 bt822.2.2.2.1)))))) = some r:=H
  have A3:=Am A30
  clear A30
  replace H:=bI H
  obtain ⟨⟨t814,t815,t818,t819,t820⟩,A40,H⟩:=H
  replace H:((impl_AddrJoin.f k t806 t807 t810 t811 t812).bind fun bt822=>(if (bt822.2.2.2.2 != t820) = true then (laws_FnJoinOk.j0 k t812 t820 bt822.2.2.2.2 true t806 t807 t810 t811 t814 t815 t818 t819 bt822.1 bt822.2.1 bt822.2.2.1 bt822.2.2.2.1) else ((laws_lpAddr.f k bt822.1 bt822.2.1 bt822.2.2.1 bt822.2.2.2.1 t814 t815 t818 t819).bind fun t830=>(if t830 = true then (laws_FnJoinOk.j0 k t812 t820 bt822.2.2.2.2 (!bt822.2.2.2.2) t806 t807 t810 t811 t814 t815 t818 t819 bt822.1 bt822.2.1 bt822.2.2.1 bt822.2.2.2.1) else (laws_FnJoinOk.j0 k t812 t820 bt822.2.2.2.2 true t806 t807 t810 t811 t814 t815 t818 t819 bt822.1 bt822.2.1 bt822.2.2.1 bt822.2.2.2.1))))) = some r:=H
  have A4:=Am A40
  clear A40
  replace H:=bI H
  obtain ⟨⟨t822,t823,t826,t827,t828⟩,A50,H⟩:=H
  replace H:(if (t828 != t820) = true then (laws_FnJoinOk.j0 k t812 t820 t828 true t806 t807 t810 t811 t814 t815 t818 t819 t822 t823 t826 t827) else ((laws_lpAddr.f k t822 t823 t826 t827 t814 t815 t818 t819).bind fun t830=>(if t830 = true then (laws_FnJoinOk.j0 k t812 t820 t828 (!t828) t806 t807 t810 t811 t814 t815 t818 t819 t822 t823 t826 t827) else (laws_FnJoinOk.j0 k t812 t820 t828 true t806 t807 t810 t811 t814 t815 t818 t819 t822 t823 t826 t827)))) = some r:=H
  have A5:=Am A50
  clear A50
  have HC6:=Am H
  clear H
  go_enter Tryd.func9,Tryd.ntmps9
  go_upto_region 6 with (first|((with_reducible refine gate_callee (f:=11) rfl ?_);refine goesL_ (some 15) rfl rfl Tryd.func11 (by kernel_rfl) rfl #[.slice A0 l0.length c0] rfl (aE1 rfl) ?_;(with_reducible refine (spec_DrawAddrJoin.calls k _ _ l0 t806 t807 t810 t811 t812 _ ?side1 ?side2 A3.out).mono ?_);(case side1=>repeat (first|exact HR0.out|(with_reducible refine bC ?_)));(case side2=>exact HC0.out);rintro e w7 ⟨v808,rfl,ho0,hb⟩;refine ⟨_,rfl,?_⟩;have n0_:=Am (Kd.R_lower ho0 (bU (by repeat (first|(with_reducible first|exact HB.out|apply bA|apply bN|apply bD)|exact HB.out))));have n1_:=Am (bT (by repeat (first|(with_reducible first|exact HB.out|apply bA|apply bN|apply bD)|exact HB.out)) hb);clear HB;have HO809:=n0_;have HB:=n1_;clear n0_ n1_;(try clear hb);(try clear ho0))|((with_reducible refine gate_dst (N:=3) rfl ?_);refine box_event ?hg (N:=3) ?hd (cs:=#[.string (⟨#[]⟩:ByteArray), .slice none 0 0, .bool false, .string (⟨#[]⟩:ByteArray)]) (t:=25) ?hr ?_;(case hd=>rfl);(case hg=>rfl);(case hr=>(go_simp <;> rfl));intro gb813 hg w8 hbox hb;have n0_:=Am (Kd.R_below (bR HO809.out) hb);have n1_:=Am (bT (by repeat (first|(with_reducible first|exact HB.out|apply bA|apply bN|apply bD)|exact HB.out)) hb);have n2_:=Am (hbox);have n3_:=Am ((by rw [hg];exact (bU (by repeat (first|(with_reducible first|exact HB.out|apply bA|apply bN|apply bD)|exact HB.out))):w.heap.size ≤ gb813));have n4_:=n3_;clear HO809 HB;have HO809:=n0_;have HB:=n1_;have BK813:=n2_;have GW813:=n3_;have GE813:=n4_;clear n0_ n1_ n2_ n3_ n4_ hb hbox hg;have hcz9_0:w8.cell? ⟨gb813,0,none⟩ = some (.string (⟨#[]⟩:ByteArray)):=bM BK813.out 0 rfl;have hcz9_1:w8.cell? ⟨gb813,1,none⟩ = some (.slice none 0 0):=bM BK813.out 1 rfl;have hcz9_2:w8.cell? ⟨gb813,2,none⟩ = some (.bool false):=bM BK813.out 2 rfl;have hcz9_3:w8.cell? ⟨gb813,3,none⟩ = some (.string (⟨#[]⟩:ByteArray)):=bM BK813.out 3 rfl;have hfz9_0:=bZ BK813.out 0;have hfz9_1:=bZ BK813.out 1;have hfz9_2:=bZ BK813.out 2;have hfz9_3:=bZ BK813.out 3;obtain ⟨Ao10,co10,eo10⟩:=Kd.R_slice HO809.out;subst eo10)|((with_reducible refine gate_callee (f:=12) rfl ?_);refine goesL_ (some 21) rfl rfl Tryd.func12 (by kernel_rfl) rfl #[.agg #[.string t806, .slice Ao10 t807.length co10, .bool t810, .string t811], .string t812] rfl (aE2 rfl rfl) ?_;(with_reducible refine (spec_AddrJoin.calls k t806 _ _ t807 t810 t811 t812 t814 t815 t818 t819 t820 _ ?side1 ?side2 A4.out).mono ?_);(case side1=>refine (Kd.R_reads' (e:=9) (base:=w.heap.size) (ok:=fun k_=>True) (n:=t807.length) (c:=co10) ?_).2.2;exact (by (with_reducible repeat (first|apply rA|apply rN|apply rD));exact (bQ HO809.out BK813.out (by decide) _ _ _ _)));(case side2=>exact (Kd.R_reads' HO809.out).2.1);rintro e w11 ⟨v816,rfl,ho0,hb⟩;refine ⟨_,rfl,?_⟩;have n0_:=Am (Kd.R_elder' (by (with_reducible repeat (first|apply rA|apply rN|apply rD));exact (bQ HO809.out BK813.out (by decide) _ _ _ _)) (Kd.R_base ho0) hb);have n1_:=Am (Kd.R_lower (Kd.R_new' ho0 (Kd.R_lt (by (with_reducible repeat (first|apply rA|apply rN|apply rD));exact (bQ HO809.out BK813.out (by decide) _ _ _ _)))) (bU (by repeat (first|(with_reducible first|exact HB.out|apply bA|apply bN|apply bD|refine bS ?_ GE813.out)|exact HB.out))));have n2_:=Am (blk_below (g:=gb813) (o:=.cells #[.string t806, .slice Ao10 t807.length co10, .bool t810, .string t811] 25 (0,0)) (by refine bB ?_;apply bP;refine bB ?_;exact BK813.out) hb);have n3_:=Am (bT (by repeat (first|(with_reducible first|exact HB.out|apply bA|apply bN|apply bD|refine bS ?_ GE813.out)|exact HB.out)) hb);clear HO809 BK813 HB;have HO809:=n0_;have HO817:=n1_;have BK813:=n2_;have HB:=n3_;clear n0_ n1_ n2_ n3_;(try clear hb);(try clear ho0))|((with_reducible refine gate_dst (N:=5) rfl ?_);refine box_event ?hg (N:=5) ?hd (cs:=#[.string (⟨#[]⟩:ByteArray), .slice none 0 0, .bool false, .string (⟨#[]⟩:ByteArray)]) (t:=25) ?hr ?_;(case hd=>rfl);(case hg=>rfl);(case hr=>(go_simp <;> rfl));intro gb821 hg w12 hbox hb;have n0_:=Am (Kd.R_below (bR HO809.out) hb);have n1_:=Am (Kd.R_below (bR HO817.out) hb);have n2_:=Am (blk_below (bB BK813.out) hb);have n3_:=Am (bT (by repeat (first|(with_reducible first|exact HB.out|apply bA|apply bN|apply bD|refine bS ?_ GE813.out)|exact HB.out)) hb);have n4_:=Am (hbox);have n5_:=Am ((by rw [hg];exact (bU (by repeat (first|(with_reducible first|exact HB.out|apply bA|apply bN|apply bD|refine bS ?_ GE813.out)|exact HB.out))):w.heap.size ≤ gb821));have n6_:=n5_;have n7_:=Am ((by rw [hg];exact Nat.ne_of_lt (blk_lt (bB BK813.out)):gb813 ≠ gb821));have n8_:=Am ((by rw [hg];exact Nat.ne_of_gt (blk_lt (bB BK813.out)):gb821 ≠ gb813));clear HO809 HO817 BK813 HB;have HO809:=n0_;have HO817:=n1_;have BK813:=n2_;have HB:=n3_;have BK821:=n4_;have GW821:=n5_;have GE821:=n6_;have NB813_821:=n7_;have NB821_813:=n8_;clear n0_ n1_ n2_ n3_ n4_ n5_ n6_ n7_ n8_ hb hbox hg;have hnb13:=NB821_813.out;have hnc13:=NB813_821.out;have hcz14_0:w12.cell? ⟨gb821,0,none⟩ = some (.string (⟨#[]⟩:ByteArray)):=bM BK821.out 0 rfl;have hcz14_1:w12.cell? ⟨gb821,1,none⟩ = some (.slice none 0 0):=bM BK821.out 1 rfl;have hcz14_2:w12.cell? ⟨gb821,2,none⟩ = some (.bool false):=bM BK821.out 2 rfl;have hcz14_3:w12.cell? ⟨gb821,3,none⟩ = some (.string (⟨#[]⟩:ByteArray)):=bM BK821.out 3 rfl;have hfz14_0:=bZ BK821.out 0;have hfz14_1:=bZ BK821.out 1;have hfz14_2:=bZ BK821.out 2;have hfz14_3:=bZ BK821.out 3;obtain ⟨Ao15,co15,eo15⟩:=Kd.R_slice HO817.out;subst eo15;have hcz16_0:w12.cell? ⟨gb813,0,none⟩ = some (.string t806):=bM BK813.out 0 rfl;have hcz16_1:w12.cell? ⟨gb813,1,none⟩ = some (.slice Ao10 t807.length co10):=bM BK813.out 1 rfl;have hcz16_2:w12.cell? ⟨gb813,2,none⟩ = some (.bool t810):=bM BK813.out 2 rfl;have hcz16_3:w12.cell? ⟨gb813,3,none⟩ = some (.string t811):=bM BK813.out 3 rfl;have hfz16_0:=bZ BK813.out 0;have hfz16_1:=bZ BK813.out 1;have hfz16_2:=bZ BK813.out 2;have hfz16_3:=bZ BK813.out 3)|((with_reducible refine gate_callee (f:=13) rfl ?_);refine goesL_ (some 27) rfl rfl Tryd.func13 (by kernel_rfl) rfl #[.agg #[.string t806, .slice Ao10 t807.length co10, .bool t810, .string t811], .string t812] rfl (aE2 rfl rfl) ?_;(with_reducible refine (impl_AddrJoin.calls k t806 _ _ t807 t810 t811 t812 t822 t823 t826 t827 t828 _ ?side1 ?side2 A5.out).mono ?_);(case side1=>refine (Kd.R_reads' (e:=9) (base:=w.heap.size) (ok:=fun k_=>(True ∧ some k_ ≠ (.slice Ao15 t815.length co15:Value).ownBlock)) (n:=t807.length) (c:=co10) ?_).2.2;exact (by (with_reducible repeat (first|apply rA|apply rN|apply rD));exact (bQ HO809.out BK821.out (by decide) _ _ _ _)));(case side2=>exact (Kd.R_reads' HO809.out).2.1);rintro e w17 ⟨v824,rfl,ho0,hb⟩;refine ⟨_,rfl,?_⟩;have n0_:=Am (Kd.R_elder' (by (with_reducible repeat (first|apply rA|apply rN|apply rD));exact (bQ HO809.out BK821.out (by decide) _ _ _ _)) (Kd.R_base ho0) hb);have n1_:=Am (Kd.R_elder' (by (with_reducible repeat (first|apply rA|apply rN|apply rD));exact (bQ HO817.out BK821.out (by decide) _ _ _ _)) (Kd.R_base ho0) hb);have n2_:=Am (Kd.R_lower (Kd.R_new' (Kd.R_new' ho0 (Kd.R_lt (by (with_reducible repeat (first|apply rA|apply rN|apply rD));exact (bQ HO809.out BK821.out (by decide) _ _ _ _)))) (Kd.R_lt (by (with_reducible repeat (first|apply rA|apply rN|apply rD));exact (bQ HO817.out BK821.out (by decide) _ _ _ _)))) (bU (by repeat (first|(with_reducible first|exact HB.out|apply bA|apply bN|apply bD|refine bS ?_ GE813.out|refine bS ?_ GE821.out)|exact HB.out))));have n3_:=Am (blk_below (g:=gb813) (o:=.cells #[.string t806, .slice Ao10 t807.length co10, .bool t810, .string t811] 25 (0,0)) (by refine bB ?_;refine bF ?_ NB813_821.out;refine bB ?_;exact BK813.out) hb);have n4_:=Am (blk_below (g:=gb821) (o:=.cells #[.string t814, .slice Ao15 t815.length co15, .bool t818, .string t819] 25 (0,0)) (by refine bB ?_;apply bP;refine bB ?_;exact BK821.out) hb);have n5_:=Am (bT (by repeat (first|(with_reducible first|exact HB.out|apply bA|apply bN|apply bD|refine bS ?_ GE813.out|refine bS ?_ GE821.out)|exact HB.out)) hb);clear HO809 HO817 BK813 BK821 HB;have HO809:=n0_;have HO817:=n1_;have HO825:=n2_;have BK813:=n3_;have BK821:=n4_;have HB:=n5_;clear n0_ n1_ n2_ n3_ n4_ n5_;(try clear hb);(try clear ho0))|((with_reducible refine gate_dst (N:=7) rfl ?_);refine box_event ?hg (N:=7) ?hd (cs:=#[.string (⟨#[]⟩:ByteArray), .slice none 0 0, .bool false, .string (⟨#[]⟩:ByteArray)]) (t:=25) ?hr ?_;(case hd=>rfl);(case hg=>rfl);(case hr=>(go_simp <;> rfl));intro gb829 hg w18 hbox hb;have n0_:=Am (Kd.R_below (bR HO809.out) hb);have n1_:=Am (Kd.R_below (bR HO817.out) hb);have n2_:=Am (Kd.R_below (bR HO825.out) hb);have n3_:=Am (blk_below (bB BK813.out) hb);have n4_:=Am (blk_below (bB BK821.out) hb);have n5_:=Am (bT (by repeat (first|(with_reducible first|exact HB.out|apply bA|apply bN|apply bD|refine bS ?_ GE813.out|refine bS ?_ GE821.out)|exact HB.out)) hb);have n6_:=Am (hbox);have n7_:=Am ((by rw [hg];exact (bU (by repeat (first|(with_reducible first|exact HB.out|apply bA|apply bN|apply bD|refine bS ?_ GE813.out|refine bS ?_ GE821.out)|exact HB.out))):w.heap.size ≤ gb829));have n8_:=n7_;have n9_:=Am ((by rw [hg];exact Nat.ne_of_lt (blk_lt (bB BK813.out)):gb813 ≠ gb829));have n10_:=Am ((by rw [hg];exact Nat.ne_of_gt (blk_lt (bB BK813.out)):gb829 ≠ gb813));have n11_:=Am ((by rw [hg];exact Nat.ne_of_lt (blk_lt (bB BK821.out)):gb821 ≠ gb829));have n12_:=Am ((by rw [hg];exact Nat.ne_of_gt (blk_lt (bB BK821.out)):gb829 ≠ gb821));clear HO809 HO817 HO825 BK813 BK821 HB;have HO809:=n0_;have HO817:=n1_;have HO825:=n2_;have BK813:=n3_;have BK821:=n4_;have HB:=n5_;have BK829:=n6_;have GW829:=n7_;have GE829:=n8_;have NB813_829:=n9_;have NB829_813:=n10_;have NB821_829:=n11_;have NB829_821:=n12_;clear n0_ n1_ n2_ n3_ n4_ n5_ n6_ n7_ n8_ n9_ n10_ n11_ n12_ hb hbox hg;have hnb19:=NB829_813.out;have hnc19:=NB813_829.out;have hnb20:=NB829_821.out;have hnc20:=NB821_829.out;have hcz21_0:w18.cell? ⟨gb829,0,none⟩ = some (.string (⟨#[]⟩:ByteArray)):=bM BK829.out 0 rfl;have hcz21_1:w18.cell? ⟨gb829,1,none⟩ = some (.slice none 0 0):=bM BK829.out 1 rfl;have hcz21_2:w18.cell? ⟨gb829,2,none⟩ = some (.bool false):=bM BK829.out 2 rfl;have hcz21_3:w18.cell? ⟨gb829,3,none⟩ = some (.string (⟨#[]⟩:ByteArray)):=bM BK829.out 3 rfl;have hfz21_0:=bZ BK829.out 0;have hfz21_1:=bZ BK829.out 1;have hfz21_2:=bZ BK829.out 2;have hfz21_3:=bZ BK829.out 3;obtain ⟨Ao22,co22,eo22⟩:=Kd.R_slice HO825.out;subst eo22))
  (try simp only [Act.put,List.setIfInBounds_toArray,List.set_cons_zero,List.set_cons_succ])
  go_cut [42] (fun v42 wc=>∃ (kq:Nat) (x42_5:Bool),v42 = .bool x42_5 ∧ Aside0 (laws_FnJoinOk.j0 kq t812 t820 t828 x42_5 t806 t807 t810 t811 t814 t815 t818 t819 t822 t823 t826 t827 = some r) ∧ Aside0 (kq ≤ k) ∧ Aside0 (Kd.R Kd.string 9 wc w.heap.size (fun k_=>some k_ ≠ ((.slice Ao15 t815.length co15):Value).ownBlock ∧ some k_ ≠ ((.slice Ao22 t823.length co22):Value).ownBlock) (.slice Ao10 t807.length co10) t807) ∧ Aside0 (Kd.R Kd.string 9 wc w.heap.size (fun k_=>some k_ ≠ ((.slice Ao10 t807.length co10):Value).ownBlock ∧ some k_ ≠ ((.slice Ao22 t823.length co22):Value).ownBlock) (.slice Ao15 t815.length co15) t815) ∧ Aside0 (Kd.R Kd.string 9 wc w.heap.size (fun k_=>some k_ ≠ ((.slice Ao10 t807.length co10):Value).ownBlock ∧ some k_ ≠ ((.slice Ao15 t815.length co15):Value).ownBlock) (.slice Ao22 t823.length co22) t823) ∧ Aside0 (wc.heap[gb813]? = some (.cells #[.string t806,(.slice Ao10 t807.length co10), .bool t810, .string t811] 25 (0,0))) ∧ Aside0 (wc.heap[gb821]? = some (.cells #[.string t814,(.slice Ao15 t815.length co15), .bool t818, .string t819] 25 (0,0))) ∧ Aside0 (wc.heap[gb829]? = some (.cells #[.string t822,(.slice Ao22 t823.length co22), .bool t826, .string t827] 25 (0,0))) ∧ Aside0 (Below w.heap.size w wc))
  case first =>
   have H:=HC6.out
   clear HC6
   by_cases c23:(t828 != t820) = true
   ·rw [if_pos c23] at H
    have c23b0:(t828 != t820) = true:=c23
    (try (have c23b1:decide (t828 = t820) = false:=by simpa using c23))
    (try (have c23b2:(t828 == t820) = false:=by simpa using c23))
    (try (have c23b3:¬ (t828 = t820):=by simpa using c23))
    clear c23
    (first|rw [c23b0]|(simp only [i64_w,i32_w];rw [c23b0])|skip)
    have H':=Am H
    clear H
    go_wp2
    go_meet
    case rel=>exact ⟨_,(true),(by first|rfl|(simp;done)|(simp only [i64_w,i32_w] <;> rfl)|(simp [*];done)|(simp [emp_bne,emp_beq];done)),H',⟨by first|omega|exact Nat.le_refl _⟩,⟨by (with_reducible repeat (first|apply rA|apply rN|apply rD));exact Kd.R_mono (Kd.R_far (p:=⟨gb829,3,none⟩) (Kd.R_far (p:=⟨gb829,2,none⟩) (Kd.R_far (p:=⟨gb829,1,none⟩) (Kd.R_far (p:=⟨gb829,0,none⟩) (Kd.R_types HO809.out BK829.out (by decide)) (fun _ hk=>hk.2) (.string t822)) (fun _ hk=>hk.2) (.slice Ao22 t823.length co22)) (fun _ hk=>hk.2) (.bool t826)) (fun _ hk=>hk.2) (.string t827)) (fun _ hk=>⟨hk.1.1.2,hk.1.2⟩)⟩,⟨by (with_reducible repeat (first|apply rA|apply rN|apply rD));exact Kd.R_mono (Kd.R_far (p:=⟨gb829,3,none⟩) (Kd.R_far (p:=⟨gb829,2,none⟩) (Kd.R_far (p:=⟨gb829,1,none⟩) (Kd.R_far (p:=⟨gb829,0,none⟩) (Kd.R_types HO817.out BK829.out (by decide)) (fun _ hk=>hk.2) (.string t822)) (fun _ hk=>hk.2) (.slice Ao22 t823.length co22)) (fun _ hk=>hk.2) (.bool t826)) (fun _ hk=>hk.2) (.string t827)) (fun _ hk=>⟨hk.1.1.2,hk.1.2⟩)⟩,⟨by (with_reducible repeat (first|apply rA|apply rN|apply rD));exact Kd.R_mono (Kd.R_far (p:=⟨gb829,3,none⟩) (Kd.R_far (p:=⟨gb829,2,none⟩) (Kd.R_far (p:=⟨gb829,1,none⟩) (Kd.R_far (p:=⟨gb829,0,none⟩) (Kd.R_types HO825.out BK829.out (by decide)) (fun _ hk=>hk.2) (.string t822)) (fun _ hk=>hk.2) (.slice Ao22 t823.length co22)) (fun _ hk=>hk.2) (.bool t826)) (fun _ hk=>hk.2) (.string t827)) (fun _ hk=>⟨hk.1.1.2,hk.1.2⟩)⟩,⟨by refine bB ?_;refine bF ?_ NB813_829.out;refine bB ?_;exact BK813.out⟩,⟨by refine bB ?_;refine bF ?_ NB821_829.out;refine bB ?_;exact BK821.out⟩,⟨by refine bB ?_;apply bP;refine bB ?_;exact BK829.out⟩,⟨by repeat (first|(with_reducible first|exact HB.out|apply bA|apply bN|apply bD|refine bS ?_ GE813.out|refine bS ?_ GE821.out|refine bS ?_ GE829.out)|exact HB.out)⟩⟩
   ·rw [if_neg c23] at H
    have c23b0:(t828 != t820) = false:=by simpa using c23
    (try (have c23b1:decide (t828 = t820) = true:=by simpa using c23))
    (try (have c23b2:(t828 == t820) = true:=by simpa using c23))
    clear c23
    (first|rw [c23b0]|(simp only [i64_w,i32_w];rw [c23b0])|skip)
    replace H:=bI H
    obtain ⟨t830,A240,H⟩:=H
    replace H:(if t830 = true then (laws_FnJoinOk.j0 k t812 t820 t828 (!t828) t806 t807 t810 t811 t814 t815 t818 t819 t822 t823 t826 t827) else (laws_FnJoinOk.j0 k t812 t820 t828 true t806 t807 t810 t811 t814 t815 t818 t819 t822 t823 t826 t827)) = some r:=H
    have A24:=Am A240
    clear A240
    by_cases c25:t830 = true
    ·subst c25
     have H1:(laws_FnJoinOk.j0 k t812 t820 t828 (!t828) t806 t807 t810 t811 t814 t815 t818 t819 t822 t823 t826 t827) = some r:=by rw [if_pos rfl] at H;exact H
     clear H
     have H:=H1
     clear H1
     have H':=Am H
     clear H
     have hnb26:=NB829_813.out
     have hnc26:=NB813_829.out
     have hnb27:=NB829_821.out
     have hnc27:=NB821_829.out
     have hcz28_0:w18.cell? ⟨gb829,0,none⟩ = some (.string (⟨#[]⟩:ByteArray)):=bM BK829.out 0 rfl
     have hcz28_1:w18.cell? ⟨gb829,1,none⟩ = some (.slice none 0 0):=bM BK829.out 1 rfl
     have hcz28_2:w18.cell? ⟨gb829,2,none⟩ = some (.bool false):=bM BK829.out 2 rfl
     have hcz28_3:w18.cell? ⟨gb829,3,none⟩ = some (.string (⟨#[]⟩:ByteArray)):=bM BK829.out 3 rfl
     have hfz28_0:=bZ BK829.out 0
     have hfz28_1:=bZ BK829.out 1
     have hfz28_2:=bZ BK829.out 2
     have hfz28_3:=bZ BK829.out 3
     have hnb29:=NB821_813.out
     have hnc29:=NB813_821.out
     have hcz30_0:w18.cell? ⟨gb821,0,none⟩ = some (.string t814):=bM BK821.out 0 rfl
     have hcz30_1:w18.cell? ⟨gb821,1,none⟩ = some (.slice Ao15 t815.length co15):=bM BK821.out 1 rfl
     have hcz30_2:w18.cell? ⟨gb821,2,none⟩ = some (.bool t818):=bM BK821.out 2 rfl
     have hcz30_3:w18.cell? ⟨gb821,3,none⟩ = some (.string t819):=bM BK821.out 3 rfl
     have hfz30_0:=bZ BK821.out 0
     have hfz30_1:=bZ BK821.out 1
     have hfz30_2:=bZ BK821.out 2
     have hfz30_3:=bZ BK821.out 3
     go_wp2_with (first|(go_at_call 14;(with_reducible refine (laws_lpAddr.calls k t822 _ _ t823 t826 t827 t814 _ _ t815 t818 t819 true _ ?side1 ?side2 ?side3 ?side4 A24.out).mono ?_);(case side1=>refine (Kd.R_reads' (e:=9) (base:=w.heap.size) (ok:=fun k_=>((True ∧ some k_ ≠ (.slice Ao10 t807.length co10:Value).ownBlock) ∧ some k_ ≠ (.slice Ao15 t815.length co15:Value).ownBlock)) (n:=t823.length) (c:=co22) ?_).2.2;exact (by (with_reducible repeat (first|apply rA|apply rN|apply rD));exact (bQ HO825.out BK829.out (by decide) _ _ _ _)));(case side2=>exact (Kd.R_reads' HO825.out).2.1);(case side3=>refine (Kd.R_reads' (e:=9) (base:=w.heap.size) (ok:=fun k_=>((True ∧ some k_ ≠ (.slice Ao10 t807.length co10:Value).ownBlock) ∧ some k_ ≠ (.slice Ao22 t823.length co22:Value).ownBlock)) (n:=t815.length) (c:=co15) ?_).2.2;exact (by (with_reducible repeat (first|apply rA|apply rN|apply rD));exact (bQ HO817.out BK829.out (by decide) _ _ _ _)));(case side4=>exact (Kd.R_reads' HO817.out).2.1);rintro e w31 ⟨rfl,hb⟩;have n0_:=Am (Kd.R_below (by (with_reducible repeat (first|apply rA|apply rN|apply rD));exact (bQ HO809.out BK829.out (by decide) _ _ _ _)) hb);have n1_:=Am (Kd.R_below (by (with_reducible repeat (first|apply rA|apply rN|apply rD));exact (bQ HO817.out BK829.out (by decide) _ _ _ _)) hb);have n2_:=Am (Kd.R_below (by (with_reducible repeat (first|apply rA|apply rN|apply rD));exact (bQ HO825.out BK829.out (by decide) _ _ _ _)) hb);have n3_:=Am (blk_below (g:=gb813) (o:=.cells #[.string t806, .slice Ao10 t807.length co10, .bool t810, .string t811] 25 (0,0)) (by refine bB ?_;refine bF ?_ NB813_829.out;refine bB ?_;exact BK813.out) hb);have n4_:=Am (blk_below (g:=gb821) (o:=.cells #[.string t814, .slice Ao15 t815.length co15, .bool t818, .string t819] 25 (0,0)) (by refine bB ?_;refine bF ?_ NB821_829.out;refine bB ?_;exact BK821.out) hb);have n5_:=Am (blk_below (g:=gb829) (o:=.cells #[.string t822, .slice Ao22 t823.length co22, .bool t826, .string t827] 25 (0,0)) (by refine bB ?_;apply bP;refine bB ?_;exact BK829.out) hb);have n6_:=Am (bT (by repeat (first|(with_reducible first|exact HB.out|apply bA|apply bN|apply bD|refine bS ?_ GE813.out|refine bS ?_ GE821.out|refine bS ?_ GE829.out)|exact HB.out)) hb);clear HO809 HO817 HO825 BK813 BK821 BK829 HB;have HO809:=n0_;have HO817:=n1_;have HO825:=n2_;have BK813:=n3_;have BK821:=n4_;have BK829:=n5_;have HB:=n6_;clear n0_ n1_ n2_ n3_ n4_ n5_ n6_;(try clear hb)))
     go_meet
     case rel=>exact ⟨_,(!t828),(by first|rfl|(simp;done)|(simp only [i64_w,i32_w] <;> rfl)|(simp [*];done)|(simp [emp_bne,emp_beq];done)),H',⟨by first|omega|exact Nat.le_refl _⟩,⟨by (with_reducible repeat (first|apply rA|apply rN|apply rD));exact Kd.R_mono HO809.out (fun _ hk=>⟨hk.1.2,hk.2⟩)⟩,⟨by (with_reducible repeat (first|apply rA|apply rN|apply rD));exact Kd.R_mono HO817.out (fun _ hk=>⟨hk.1.2,hk.2⟩)⟩,⟨by (with_reducible repeat (first|apply rA|apply rN|apply rD));exact Kd.R_mono HO825.out (fun _ hk=>⟨hk.1.2,hk.2⟩)⟩,⟨by refine bB ?_;exact BK813.out⟩,⟨by refine bB ?_;exact BK821.out⟩,⟨by refine bB ?_;exact BK829.out⟩,⟨by repeat (first|(with_reducible first|exact HB.out|apply bA|apply bN|apply bD|refine bS ?_ GE813.out|refine bS ?_ GE821.out|refine bS ?_ GE829.out)|exact HB.out)⟩⟩
    ·replace c25:=Bool.eq_false_iff.mpr c25
     subst c25
     have H1:(laws_FnJoinOk.j0 k t812 t820 t828 true t806 t807 t810 t811 t814 t815 t818 t819 t822 t823 t826 t827) = some r:=by rw [if_neg (show ¬ (false = true) by decide)] at H;exact H
     clear H
     have H:=H1
     clear H1
     have H':=Am H
     clear H
     have hnb32:=NB829_813.out
     have hnc32:=NB813_829.out
     have hnb33:=NB829_821.out
     have hnc33:=NB821_829.out
     have hcz34_0:w18.cell? ⟨gb829,0,none⟩ = some (.string (⟨#[]⟩:ByteArray)):=bM BK829.out 0 rfl
     have hcz34_1:w18.cell? ⟨gb829,1,none⟩ = some (.slice none 0 0):=bM BK829.out 1 rfl
     have hcz34_2:w18.cell? ⟨gb829,2,none⟩ = some (.bool false):=bM BK829.out 2 rfl
     have hcz34_3:w18.cell? ⟨gb829,3,none⟩ = some (.string (⟨#[]⟩:ByteArray)):=bM BK829.out 3 rfl
     have hfz34_0:=bZ BK829.out 0
     have hfz34_1:=bZ BK829.out 1
     have hfz34_2:=bZ BK829.out 2
     have hfz34_3:=bZ BK829.out 3
     have hnb35:=NB821_813.out
     have hnc35:=NB813_821.out
     have hcz36_0:w18.cell? ⟨gb821,0,none⟩ = some (.string t814):=bM BK821.out 0 rfl
     have hcz36_1:w18.cell? ⟨gb821,1,none⟩ = some (.slice Ao15 t815.length co15):=bM BK821.out 1 rfl
     have hcz36_2:w18.cell? ⟨gb821,2,none⟩ = some (.bool t818):=bM BK821.out 2 rfl
     have hcz36_3:w18.cell? ⟨gb821,3,none⟩ = some (.string t819):=bM BK821.out 3 rfl
     have hfz36_0:=bZ BK821.out 0
     have hfz36_1:=bZ BK821.out 1
     have hfz36_2:=bZ BK821.out 2
     have hfz36_3:=bZ BK821.out 3
     go_wp2_with (first|(go_at_call 14;(with_reducible refine (laws_lpAddr.calls k t822 _ _ t823 t826 t827 t814 _ _ t815 t818 t819 false _ ?side1 ?side2 ?side3 ?side4 A24.out).mono ?_);(case side1=>refine (Kd.R_reads' (e:=9) (base:=w.heap.size) (ok:=fun k_=>((True ∧ some k_ ≠ (.slice Ao10 t807.length co10:Value).ownBlock) ∧ some k_ ≠ (.slice Ao15 t815.length co15:Value).ownBlock)) (n:=t823.length) (c:=co22) ?_).2.2;exact (by (with_reducible repeat (first|apply rA|apply rN|apply rD));exact (bQ HO825.out BK829.out (by decide) _ _ _ _)));(case side2=>exact (Kd.R_reads' HO825.out).2.1);(case side3=>refine (Kd.R_reads' (e:=9) (base:=w.heap.size) (ok:=fun k_=>((True ∧ some k_ ≠ (.slice Ao10 t807.length co10:Value).ownBlock) ∧ some k_ ≠ (.slice Ao22 t823.length co22:Value).ownBlock)) (n:=t815.length) (c:=co15) ?_).2.2;exact (by (with_reducible repeat (first|apply rA|apply rN|apply rD));exact (bQ HO817.out BK829.out (by decide) _ _ _ _)));(case side4=>exact (Kd.R_reads' HO817.out).2.1);rintro e w37 ⟨rfl,hb⟩;have n0_:=Am (Kd.R_below (by (with_reducible repeat (first|apply rA|apply rN|apply rD));exact (bQ HO809.out BK829.out (by decide) _ _ _ _)) hb);have n1_:=Am (Kd.R_below (by (with_reducible repeat (first|apply rA|apply rN|apply rD));exact (bQ HO817.out BK829.out (by decide) _ _ _ _)) hb);have n2_:=Am (Kd.R_below (by (with_reducible repeat (first|apply rA|apply rN|apply rD));exact (bQ HO825.out BK829.out (by decide) _ _ _ _)) hb);have n3_:=Am (blk_below (g:=gb813) (o:=.cells #[.string t806, .slice Ao10 t807.length co10, .bool t810, .string t811] 25 (0,0)) (by refine bB ?_;refine bF ?_ NB813_829.out;refine bB ?_;exact BK813.out) hb);have n4_:=Am (blk_below (g:=gb821) (o:=.cells #[.string t814, .slice Ao15 t815.length co15, .bool t818, .string t819] 25 (0,0)) (by refine bB ?_;refine bF ?_ NB821_829.out;refine bB ?_;exact BK821.out) hb);have n5_:=Am (blk_below (g:=gb829) (o:=.cells #[.string t822, .slice Ao22 t823.length co22, .bool t826, .string t827] 25 (0,0)) (by refine bB ?_;apply bP;refine bB ?_;exact BK829.out) hb);have n6_:=Am (bT (by repeat (first|(with_reducible first|exact HB.out|apply bA|apply bN|apply bD|refine bS ?_ GE813.out|refine bS ?_ GE821.out|refine bS ?_ GE829.out)|exact HB.out)) hb);clear HO809 HO817 HO825 BK813 BK821 BK829 HB;have HO809:=n0_;have HO817:=n1_;have HO825:=n2_;have BK813:=n3_;have BK821:=n4_;have BK829:=n5_;have HB:=n6_;clear n0_ n1_ n2_ n3_ n4_ n5_ n6_;(try clear hb)))
     go_meet
     case rel=>exact ⟨_,(true),(by first|rfl|(simp;done)|(simp only [i64_w,i32_w] <;> rfl)|(simp [*];done)|(simp [emp_bne,emp_beq];done)),H',⟨by first|omega|exact Nat.le_refl _⟩,⟨by (with_reducible repeat (first|apply rA|apply rN|apply rD));exact Kd.R_mono HO809.out (fun _ hk=>⟨hk.1.2,hk.2⟩)⟩,⟨by (with_reducible repeat (first|apply rA|apply rN|apply rD));exact Kd.R_mono HO817.out (fun _ hk=>⟨hk.1.2,hk.2⟩)⟩,⟨by (with_reducible repeat (first|apply rA|apply rN|apply rD));exact Kd.R_mono HO825.out (fun _ hk=>⟨hk.1.2,hk.2⟩)⟩,⟨by refine bB ?_;exact BK813.out⟩,⟨by refine bB ?_;exact BK821.out⟩,⟨by refine bB ?_;exact BK829.out⟩,⟨by repeat (first|(with_reducible first|exact HB.out|apply bA|apply bN|apply bD|refine bS ?_ GE813.out|refine bS ?_ GE821.out|refine bS ?_ GE829.out)|exact HB.out)⟩⟩
  case rest =>
   clear HC6
   try clear c1
   try clear c2
   try clear c2b0
   try clear c2b1
   try clear p2
   try clear c3
   try clear c9
   try clear c11
   try clear c12
   try clear c13
   try clear c19
   try clear c20
   try clear c23
   try clear c23b0
   try clear c23b1
   try clear c23b2
   try clear c25
   try clear c26
   try clear c27
   try clear c29
   try clear c32
   try clear c33
   try clear c35
   try clear hcz14_0
   try clear hcz14_1
   try clear hcz14_2
   try clear hcz14_3
   try clear hcz16_0
   try clear hcz16_1
   try clear hcz16_2
   try clear hcz16_3
   try clear hcz21_0
   try clear hcz21_1
   try clear hcz21_2
   try clear hcz21_3
   try clear hcz28_0
   try clear hcz28_1
   try clear hcz28_2
   try clear hcz28_3
   try clear hcz30_0
   try clear hcz30_1
   try clear hcz30_2
   try clear hcz30_3
   try clear hcz34_0
   try clear hcz34_1
   try clear hcz34_2
   try clear hcz34_3
   try clear hcz36_0
   try clear hcz36_1
   try clear hcz36_2
   try clear hcz36_3
   try clear hcz9_0
   try clear hcz9_1
   try clear hcz9_2
   try clear hcz9_3
   try clear hfz14_0
   try clear hfz14_1
   try clear hfz14_2
   try clear hfz14_3
   try clear hfz16_0
   try clear hfz16_1
   try clear hfz16_2
   try clear hfz16_3
   try clear hfz21_0
   try clear hfz21_1
   try clear hfz21_2
   try clear hfz21_3
   try clear hfz28_0
   try clear hfz28_1
   try clear hfz28_2
   try clear hfz28_3
   try clear hfz30_0
   try clear hfz30_1
   try clear hfz30_2
   try clear hfz30_3
   try clear hfz34_0
   try clear hfz34_1
   try clear hfz34_2
   try clear hfz34_3
   try clear hfz36_0
   try clear hfz36_1
   try clear hfz36_2
   try clear hfz36_3
   try clear hfz9_0
   try clear hfz9_1
   try clear hfz9_2
   try clear hfz9_3
   obtain ⟨kq,x42_5,rfl,HA,HJ5,HO_814001,HO_822001,HO_830001,BK813,BK821,BK829,HB⟩:=hcut
   cases kq with
   | zero=>exact absurd HA.out (by simp [laws_FnJoinOk.j0])
   | succ kj5 =>
    have H:=HA.out
    clear HA
    simp only [laws_FnJoinOk.j0] at H
    by_cases c38:x42_5 = true
    ·subst c38
     have H1:(if (t828 == t820) = true then ((laws_lpAddr.f kj5 t822 t823 t826 t827 t814 t815 t818 t819).bind fun t831=>(some t831)) else (some false)) = some r:=by rw [if_pos rfl] at H;exact H
     clear H
     have H:=H1
     clear H1
     by_cases c39:(t828 == t820) = true
     ·rw [if_pos c39] at H
      have c39b0:(t828 == t820) = true:=c39
      (try (have c39b1:decide (t828 = t820) = true:=by simpa using c39))
      (try (have c39b2:(t828 == t820) = true:=by simpa using c39))
      clear c39
      replace H:=bI H
      obtain ⟨t831,A400,H⟩:=H
      replace H:(some t831) = some r:=H
      have A40:=Am A400
      clear A400
      obtain rfl:=Option.some.inj H
      have hnb41:=NB829_813.out
      have hnc41:=NB813_829.out
      have hnb42:=NB829_821.out
      have hnc42:=NB821_829.out
      have hcz43_0:wc.cell? ⟨gb829,0,none⟩ = some (.string t822):=bM BK829.out 0 rfl
      have hcz43_1:wc.cell? ⟨gb829,1,none⟩ = some (.slice Ao22 t823.length co22):=bM BK829.out 1 rfl
      have hcz43_2:wc.cell? ⟨gb829,2,none⟩ = some (.bool t826):=bM BK829.out 2 rfl
      have hcz43_3:wc.cell? ⟨gb829,3,none⟩ = some (.string t827):=bM BK829.out 3 rfl
      have hfz43_0:=bZ BK829.out 0
      have hfz43_1:=bZ BK829.out 1
      have hfz43_2:=bZ BK829.out 2
      have hfz43_3:=bZ BK829.out 3
      have hnb44:=NB821_813.out
      have hnc44:=NB813_821.out
      have hcz45_0:wc.cell? ⟨gb821,0,none⟩ = some (.string t814):=bM BK821.out 0 rfl
      have hcz45_1:wc.cell? ⟨gb821,1,none⟩ = some (.slice Ao15 t815.length co15):=bM BK821.out 1 rfl
      have hcz45_2:wc.cell? ⟨gb821,2,none⟩ = some (.bool t818):=bM BK821.out 2 rfl
      have hcz45_3:wc.cell? ⟨gb821,3,none⟩ = some (.string t819):=bM BK821.out 3 rfl
      have hfz45_0:=bZ BK821.out 0
      have hfz45_1:=bZ BK821.out 1
      have hfz45_2:=bZ BK821.out 2
      have hfz45_3:=bZ BK821.out 3
      go_wp2_with (first|(go_at_call 14;(with_reducible refine (laws_lpAddr.calls kj5 t822 _ _ t823 t826 t827 t814 _ _ t815 t818 t819 t831 _ ?side1 ?side2 ?side3 ?side4 A40.out).mono ?_);(case side1=>repeat (first|exact (Kd.R_reads' HO_830001.out).2.2|(with_reducible refine bC ?_)));(case side2=>exact (Kd.R_reads' HO_830001.out).2.1);(case side3=>repeat (first|exact (Kd.R_reads' HO_822001.out).2.2|(with_reducible refine bC ?_)));(case side4=>exact (Kd.R_reads' HO_822001.out).2.1);rintro e w46 ⟨rfl,hb⟩;have n0_:=Am (Kd.R_below (bR HO_814001.out) hb);have n1_:=Am (Kd.R_below (bR HO_822001.out) hb);have n2_:=Am (Kd.R_below (bR HO_830001.out) hb);have n3_:=Am (blk_below (bB BK813.out) hb);have n4_:=Am (blk_below (bB BK821.out) hb);have n5_:=Am (blk_below (bB BK829.out) hb);have n6_:=Am (bT (by repeat (first|(with_reducible first|exact HB.out|apply bA|apply bN|apply bD|refine bS ?_ GE813.out|refine bS ?_ GE821.out|refine bS ?_ GE829.out)|exact HB.out)) hb);clear HO_814001 HO_822001 HO_830001 BK813 BK821 BK829 HB;have HO_814001:=n0_;have HO_822001:=n1_;have HO_830001:=n2_;have BK813:=n3_;have BK821:=n4_;have BK829:=n5_;have HB:=n6_;clear n0_ n1_ n2_ n3_ n4_ n5_ n6_;(try clear hb)))
      go_ret
      exact ⟨by first|rfl|(simp <;> rfl)|(simp [*] <;> rfl),by repeat (first|(with_reducible first|exact HB.out|apply bA|apply bN|apply bD|refine bS ?_ GE813.out|refine bS ?_ GE821.out|refine bS ?_ GE829.out)|exact HB.out)⟩
     ·rw [if_neg c39] at H
      have c39b0:(t828 == t820) = false:=by simpa using c39
      (try (have c39b1:decide (t828 = t820) = false:=by simpa using c39))
      (try (have c39b2:(t828 == t820) = false:=by simpa using c39))
      (try (have c39b3:¬ (t828 = t820):=by simpa using c39))
      clear c39
      obtain rfl:=Option.some.inj H
      go_wp2
      go_ret
      exact ⟨by first|rfl|(simp <;> rfl)|(simp [*] <;> rfl),by repeat (first|(with_reducible first|exact HB.out|apply bA|apply bN|apply bD|refine bS ?_ GE813.out|refine bS ?_ GE821.out|refine bS ?_ GE829.out)|exact HB.out)⟩
    ·replace c38:=Bool.eq_false_iff.mpr c38
     subst c38
     have H1:(if (t812.size:Int) ≥ 2 then (if 0 ≤ 2 then (if 2 ≤ (t812.size:Int) then ((impl_AddrOk.f kj5 t822 t823 t826 t827).bind fun t832=>(if t832 = true then (if (t812.extract 0 2).toList = ([47,47]:List UInt8) then (some true) else (some (t822.toList == t806.toList))) else (some false))) else (none)) else (none)) else ((impl_AddrOk.f kj5 t822 t823 t826 t827).bind fun t833=>(if t833 = true then (some (t822.toList == t806.toList)) else (some false)))) = some r:=by rw [if_neg (show ¬ (false = true) by decide)] at H;exact H
     clear H
     have H:=H1
     clear H1
     by_cases c47:(t812.size:Int) ≥ 2
     ·rw [if_pos c47] at H
      have c47b0:decide (2 ≤ (t812.size:Int)) = true:=decide_eq_true c47
      have c47b1:decide (2 ≤ t812.size) = true:=decide_eq_true (by omega)
      clear c47
      by_cases c48:0 ≤ 2
      ·rw [if_pos c48] at H
       have c48b0:=eq_true c48
       have c48b1:=decide_eq_true c48
       clear c48
       by_cases c49:2 ≤ (t812.size:Int)
       ·rw [if_pos c49] at H
        have c49b0:=eq_true c49
        have c49b1:=decide_eq_true c49
        clear c49
        replace H:=bI H
        obtain ⟨t832,A500,H⟩:=H
        replace H:(if t832 = true then (if (t812.extract 0 2).toList = ([47,47]:List UInt8) then (some true) else (some (t822.toList == t806.toList))) else (some false)) = some r:=H
        have A50:=Am A500
        clear A500
        by_cases c51:t832 = true
        ·subst c51
         have H1:(if (t812.extract 0 2).toList = ([47,47]:List UInt8) then (some true) else (some (t822.toList == t806.toList))) = some r:=by rw [if_pos rfl] at H;exact H
         clear H
         have H:=H1
         clear H1
         by_cases c52:(t812.extract 0 2).toList = ([47,47]:List UInt8)
         ·rw [if_pos c52] at H
          have c52b0:((t812.extract 0 2).toList == ([47,47]:List UInt8)) = true:=beq_iff_eq.mpr c52
          have c52b1:((t812.extract 0 2).toList != ([47,47]:List UInt8)) = false:=bne_eq_false_iff_eq.mpr c52
          clear c52
          obtain rfl:=Option.some.inj H
          have hnb53:=NB829_813.out
          have hnc53:=NB813_829.out
          have hnb54:=NB829_821.out
          have hnc54:=NB821_829.out
          have hcz55_0:wc.cell? ⟨gb829,0,none⟩ = some (.string t822):=bM BK829.out 0 rfl
          have hcz55_1:wc.cell? ⟨gb829,1,none⟩ = some (.slice Ao22 t823.length co22):=bM BK829.out 1 rfl
          have hcz55_2:wc.cell? ⟨gb829,2,none⟩ = some (.bool t826):=bM BK829.out 2 rfl
          have hcz55_3:wc.cell? ⟨gb829,3,none⟩ = some (.string t827):=bM BK829.out 3 rfl
          have hfz55_0:=bZ BK829.out 0
          have hfz55_1:=bZ BK829.out 1
          have hfz55_2:=bZ BK829.out 2
          have hfz55_3:=bZ BK829.out 3
          go_wp2_with (first|((with_reducible refine gate_callee (f:=28) rfl ?_);refine goesL_ (some 60) rfl rfl Tryd.func28 (by kernel_rfl) rfl #[.agg #[.string t822, .slice Ao22 t823.length co22, .bool t826, .string t827]] rfl (aE1 rfl) ?_;(with_reducible refine (impl_AddrOk.calls kj5 t822 _ _ t823 t826 t827 true _ ?side1 ?side2 A50.out).mono ?_);(case side1=>repeat (first|exact (Kd.R_reads' HO_830001.out).2.2|(with_reducible refine bC ?_)));(case side2=>exact (Kd.R_reads' HO_830001.out).2.1);rintro e w56 ⟨rfl,hb⟩;refine ⟨_,rfl,?_⟩;have n0_:=Am (Kd.R_below (bR HO_814001.out) hb);have n1_:=Am (Kd.R_below (bR HO_822001.out) hb);have n2_:=Am (Kd.R_below (bR HO_830001.out) hb);have n3_:=Am (blk_below (bB BK813.out) hb);have n4_:=Am (blk_below (bB BK821.out) hb);have n5_:=Am (blk_below (bB BK829.out) hb);have n6_:=Am (bT (by repeat (first|(with_reducible first|exact HB.out|apply bA|apply bN|apply bD|refine bS ?_ GE813.out|refine bS ?_ GE821.out|refine bS ?_ GE829.out)|exact HB.out)) hb);clear HO_814001 HO_822001 HO_830001 BK813 BK821 BK829 HB;have HO_814001:=n0_;have HO_822001:=n1_;have HO_830001:=n2_;have BK813:=n3_;have BK821:=n4_;have BK829:=n5_;have HB:=n6_;clear n0_ n1_ n2_ n3_ n4_ n5_ n6_;(try clear hb)))
          go_ret
          exact ⟨by first|rfl|(simp <;> rfl)|(simp [*] <;> rfl),by repeat (first|(with_reducible first|exact HB.out|apply bA|apply bN|apply bD|refine bS ?_ GE813.out|refine bS ?_ GE821.out|refine bS ?_ GE829.out)|exact HB.out)⟩
         ·rw [if_neg c52] at H
          have c52b0:((t812.extract 0 2).toList == ([47,47]:List UInt8)) = false:=beq_eq_false_iff_ne.mpr c52
          have c52b1:((t812.extract 0 2).toList != ([47,47]:List UInt8)) = true:=bne_iff_ne.mpr c52
          obtain rfl:=Option.some.inj H
          have hnb57:=NB829_813.out
          have hnc57:=NB813_829.out
          have hnb58:=NB829_821.out
          have hnc58:=NB821_829.out
          have hcz59_0:wc.cell? ⟨gb829,0,none⟩ = some (.string t822):=bM BK829.out 0 rfl
          have hcz59_1:wc.cell? ⟨gb829,1,none⟩ = some (.slice Ao22 t823.length co22):=bM BK829.out 1 rfl
          have hcz59_2:wc.cell? ⟨gb829,2,none⟩ = some (.bool t826):=bM BK829.out 2 rfl
          have hcz59_3:wc.cell? ⟨gb829,3,none⟩ = some (.string t827):=bM BK829.out 3 rfl
          have hfz59_0:=bZ BK829.out 0
          have hfz59_1:=bZ BK829.out 1
          have hfz59_2:=bZ BK829.out 2
          have hfz59_3:=bZ BK829.out 3
          go_wp2_with (first|((with_reducible refine gate_callee (f:=28) rfl ?_);refine goesL_ (some 60) rfl rfl Tryd.func28 (by kernel_rfl) rfl #[.agg #[.string t822, .slice Ao22 t823.length co22, .bool t826, .string t827]] rfl (aE1 rfl) ?_;(with_reducible refine (impl_AddrOk.calls kj5 t822 _ _ t823 t826 t827 true _ ?side1 ?side2 A50.out).mono ?_);(case side1=>repeat (first|exact (Kd.R_reads' HO_830001.out).2.2|(with_reducible refine bC ?_)));(case side2=>exact (Kd.R_reads' HO_830001.out).2.1);rintro e w60 ⟨rfl,hb⟩;refine ⟨_,rfl,?_⟩;have n0_:=Am (Kd.R_below (bR HO_814001.out) hb);have n1_:=Am (Kd.R_below (bR HO_822001.out) hb);have n2_:=Am (Kd.R_below (bR HO_830001.out) hb);have n3_:=Am (blk_below (bB BK813.out) hb);have n4_:=Am (blk_below (bB BK821.out) hb);have n5_:=Am (blk_below (bB BK829.out) hb);have n6_:=Am (bT (by repeat (first|(with_reducible first|exact HB.out|apply bA|apply bN|apply bD|refine bS ?_ GE813.out|refine bS ?_ GE821.out|refine bS ?_ GE829.out)|exact HB.out)) hb);clear HO_814001 HO_822001 HO_830001 BK813 BK821 BK829 HB;have HO_814001:=n0_;have HO_822001:=n1_;have HO_830001:=n2_;have BK813:=n3_;have BK821:=n4_;have BK829:=n5_;have HB:=n6_;clear n0_ n1_ n2_ n3_ n4_ n5_ n6_;(try clear hb);have hcz61_0:w60.cell? ⟨gb829,0,none⟩ = some (.string t822):=bM BK829.out 0 rfl;have hcz61_1:w60.cell? ⟨gb829,1,none⟩ = some (.slice Ao22 t823.length co22):=bM BK829.out 1 rfl;have hcz61_2:w60.cell? ⟨gb829,2,none⟩ = some (.bool t826):=bM BK829.out 2 rfl;have hcz61_3:w60.cell? ⟨gb829,3,none⟩ = some (.string t827):=bM BK829.out 3 rfl;have hfz61_0:=bZ BK829.out 0;have hfz61_1:=bZ BK829.out 1;have hfz61_2:=bZ BK829.out 2;have hfz61_3:=bZ BK829.out 3;have hnb62:=NB813_821.out;have hnc62:=NB821_813.out;have hcz63_0:w60.cell? ⟨gb813,0,none⟩ = some (.string t806):=bM BK813.out 0 rfl;have hcz63_1:w60.cell? ⟨gb813,1,none⟩ = some (.slice Ao10 t807.length co10):=bM BK813.out 1 rfl;have hcz63_2:w60.cell? ⟨gb813,2,none⟩ = some (.bool t810):=bM BK813.out 2 rfl;have hcz63_3:w60.cell? ⟨gb813,3,none⟩ = some (.string t811):=bM BK813.out 3 rfl;have hfz63_0:=bZ BK813.out 0;have hfz63_1:=bZ BK813.out 1;have hfz63_2:=bZ BK813.out 2;have hfz63_3:=bZ BK813.out 3))
          go_ret
          exact ⟨by first|rfl|(simp <;> rfl)|(simp [*] <;> rfl),by repeat (first|(with_reducible first|exact HB.out|apply bA|apply bN|apply bD|refine bS ?_ GE813.out|refine bS ?_ GE821.out|refine bS ?_ GE829.out)|exact HB.out)⟩
        ·replace c51:=Bool.eq_false_iff.mpr c51
         subst c51
         have H1:(some false) = some r:=by rw [if_neg (show ¬ (false = true) by decide)] at H;exact H
         clear H
         have H:=H1
         clear H1
         obtain rfl:=Option.some.inj H
         have hnb64:=NB829_813.out
         have hnc64:=NB813_829.out
         have hnb65:=NB829_821.out
         have hnc65:=NB821_829.out
         have hcz66_0:wc.cell? ⟨gb829,0,none⟩ = some (.string t822):=bM BK829.out 0 rfl
         have hcz66_1:wc.cell? ⟨gb829,1,none⟩ = some (.slice Ao22 t823.length co22):=bM BK829.out 1 rfl
         have hcz66_2:wc.cell? ⟨gb829,2,none⟩ = some (.bool t826):=bM BK829.out 2 rfl
         have hcz66_3:wc.cell? ⟨gb829,3,none⟩ = some (.string t827):=bM BK829.out 3 rfl
         have hfz66_0:=bZ BK829.out 0
         have hfz66_1:=bZ BK829.out 1
         have hfz66_2:=bZ BK829.out 2
         have hfz66_3:=bZ BK829.out 3
         go_wp2_with (first|((with_reducible refine gate_callee (f:=28) rfl ?_);refine goesL_ (some 60) rfl rfl Tryd.func28 (by kernel_rfl) rfl #[.agg #[.string t822, .slice Ao22 t823.length co22, .bool t826, .string t827]] rfl (aE1 rfl) ?_;(with_reducible refine (impl_AddrOk.calls kj5 t822 _ _ t823 t826 t827 false _ ?side1 ?side2 A50.out).mono ?_);(case side1=>repeat (first|exact (Kd.R_reads' HO_830001.out).2.2|(with_reducible refine bC ?_)));(case side2=>exact (Kd.R_reads' HO_830001.out).2.1);rintro e w67 ⟨rfl,hb⟩;refine ⟨_,rfl,?_⟩;have n0_:=Am (Kd.R_below (bR HO_814001.out) hb);have n1_:=Am (Kd.R_below (bR HO_822001.out) hb);have n2_:=Am (Kd.R_below (bR HO_830001.out) hb);have n3_:=Am (blk_below (bB BK813.out) hb);have n4_:=Am (blk_below (bB BK821.out) hb);have n5_:=Am (blk_below (bB BK829.out) hb);have n6_:=Am (bT (by repeat (first|(with_reducible first|exact HB.out|apply bA|apply bN|apply bD|refine bS ?_ GE813.out|refine bS ?_ GE821.out|refine bS ?_ GE829.out)|exact HB.out)) hb);clear HO_814001 HO_822001 HO_830001 BK813 BK821 BK829 HB;have HO_814001:=n0_;have HO_822001:=n1_;have HO_830001:=n2_;have BK813:=n3_;have BK821:=n4_;have BK829:=n5_;have HB:=n6_;clear n0_ n1_ n2_ n3_ n4_ n5_ n6_;(try clear hb)))
         go_ret
         exact ⟨by first|rfl|(simp <;> rfl)|(simp [*] <;> rfl),by repeat (first|(with_reducible first|exact HB.out|apply bA|apply bN|apply bD|refine bS ?_ GE813.out|refine bS ?_ GE821.out|refine bS ?_ GE829.out)|exact HB.out)⟩
       ·rw [if_neg c49] at H
        exact absurd H (by simp)
      ·rw [if_neg c48] at H
       exact absurd H (by simp)
     ·rw [if_neg c47] at H
      have c47b0:decide (2 ≤ (t812.size:Int)) = false:=decide_eq_false c47
      have c47b1:decide (2 ≤ t812.size) = false:=decide_eq_false (by omega)
      clear c47
      replace H:=bI H
      obtain ⟨t833,A680,H⟩:=H
      replace H:(if t833 = true then (some (t822.toList == t806.toList)) else (some false)) = some r:=H
      have A68:=Am A680
      clear A680
      by_cases c69:t833 = true
      ·subst c69
       have H1:(some (t822.toList == t806.toList)) = some r:=by rw [if_pos rfl] at H;exact H
       clear H
       have H:=H1
       clear H1
       obtain rfl:=Option.some.inj H
       have hnb70:=NB829_813.out
       have hnc70:=NB813_829.out
       have hnb71:=NB829_821.out
       have hnc71:=NB821_829.out
       have hcz72_0:wc.cell? ⟨gb829,0,none⟩ = some (.string t822):=bM BK829.out 0 rfl
       have hcz72_1:wc.cell? ⟨gb829,1,none⟩ = some (.slice Ao22 t823.length co22):=bM BK829.out 1 rfl
       have hcz72_2:wc.cell? ⟨gb829,2,none⟩ = some (.bool t826):=bM BK829.out 2 rfl
       have hcz72_3:wc.cell? ⟨gb829,3,none⟩ = some (.string t827):=bM BK829.out 3 rfl
       have hfz72_0:=bZ BK829.out 0
       have hfz72_1:=bZ BK829.out 1
       have hfz72_2:=bZ BK829.out 2
       have hfz72_3:=bZ BK829.out 3
       go_wp2_with (first|((with_reducible refine gate_callee (f:=28) rfl ?_);refine goesL_ (some 60) rfl rfl Tryd.func28 (by kernel_rfl) rfl #[.agg #[.string t822, .slice Ao22 t823.length co22, .bool t826, .string t827]] rfl (aE1 rfl) ?_;(with_reducible refine (impl_AddrOk.calls kj5 t822 _ _ t823 t826 t827 true _ ?side1 ?side2 A68.out).mono ?_);(case side1=>repeat (first|exact (Kd.R_reads' HO_830001.out).2.2|(with_reducible refine bC ?_)));(case side2=>exact (Kd.R_reads' HO_830001.out).2.1);rintro e w73 ⟨rfl,hb⟩;refine ⟨_,rfl,?_⟩;have n0_:=Am (Kd.R_below (bR HO_814001.out) hb);have n1_:=Am (Kd.R_below (bR HO_822001.out) hb);have n2_:=Am (Kd.R_below (bR HO_830001.out) hb);have n3_:=Am (blk_below (bB BK813.out) hb);have n4_:=Am (blk_below (bB BK821.out) hb);have n5_:=Am (blk_below (bB BK829.out) hb);have n6_:=Am (bT (by repeat (first|(with_reducible first|exact HB.out|apply bA|apply bN|apply bD|refine bS ?_ GE813.out|refine bS ?_ GE821.out|refine bS ?_ GE829.out)|exact HB.out)) hb);clear HO_814001 HO_822001 HO_830001 BK813 BK821 BK829 HB;have HO_814001:=n0_;have HO_822001:=n1_;have HO_830001:=n2_;have BK813:=n3_;have BK821:=n4_;have BK829:=n5_;have HB:=n6_;clear n0_ n1_ n2_ n3_ n4_ n5_ n6_;(try clear hb);have hcz74_0:w73.cell? ⟨gb829,0,none⟩ = some (.string t822):=bM BK829.out 0 rfl;have hcz74_1:w73.cell? ⟨gb829,1,none⟩ = some (.slice Ao22 t823.length co22):=bM BK829.out 1 rfl;have hcz74_2:w73.cell? ⟨gb829,2,none⟩ = some (.bool t826):=bM BK829.out 2 rfl;have hcz74_3:w73.cell? ⟨gb829,3,none⟩ = some (.string t827):=bM BK829.out 3 rfl;have hfz74_0:=bZ BK829.out 0;have hfz74_1:=bZ BK829.out 1;have hfz74_2:=bZ BK829.out 2;have hfz74_3:=bZ BK829.out 3;have hnb75:=NB813_821.out;have hnc75:=NB821_813.out;have hcz76_0:w73.cell? ⟨gb813,0,none⟩ = some (.string t806):=bM BK813.out 0 rfl;have hcz76_1:w73.cell? ⟨gb813,1,none⟩ = some (.slice Ao10 t807.length co10):=bM BK813.out 1 rfl;have hcz76_2:w73.cell? ⟨gb813,2,none⟩ = some (.bool t810):=bM BK813.out 2 rfl;have hcz76_3:w73.cell? ⟨gb813,3,none⟩ = some (.string t811):=bM BK813.out 3 rfl;have hfz76_0:=bZ BK813.out 0;have hfz76_1:=bZ BK813.out 1;have hfz76_2:=bZ BK813.out 2;have hfz76_3:=bZ BK813.out 3))
       go_ret
       exact ⟨by first|rfl|(simp <;> rfl)|(simp [*] <;> rfl),by repeat (first|(with_reducible first|exact HB.out|apply bA|apply bN|apply bD|refine bS ?_ GE813.out|refine bS ?_ GE821.out|refine bS ?_ GE829.out)|exact HB.out)⟩
      ·replace c69:=Bool.eq_false_iff.mpr c69
       subst c69
       have H1:(some false) = some r:=by rw [if_neg (show ¬ (false = true) by decide)] at H;exact H
       clear H
       have H:=H1
       clear H1
       obtain rfl:=Option.some.inj H
       have hnb77:=NB829_813.out
       have hnc77:=NB813_829.out
       have hnb78:=NB829_821.out
       have hnc78:=NB821_829.out
       have hcz79_0:wc.cell? ⟨gb829,0,none⟩ = some (.string t822):=bM BK829.out 0 rfl
       have hcz79_1:wc.cell? ⟨gb829,1,none⟩ = some (.slice Ao22 t823.length co22):=bM BK829.out 1 rfl
       have hcz79_2:wc.cell? ⟨gb829,2,none⟩ = some (.bool t826):=bM BK829.out 2 rfl
       have hcz79_3:wc.cell? ⟨gb829,3,none⟩ = some (.string t827):=bM BK829.out 3 rfl
       have hfz79_0:=bZ BK829.out 0
       have hfz79_1:=bZ BK829.out 1
       have hfz79_2:=bZ BK829.out 2
       have hfz79_3:=bZ BK829.out 3
       go_wp2_with (first|((with_reducible refine gate_callee (f:=28) rfl ?_);refine goesL_ (some 60) rfl rfl Tryd.func28 (by kernel_rfl) rfl #[.agg #[.string t822, .slice Ao22 t823.length co22, .bool t826, .string t827]] rfl (aE1 rfl) ?_;(with_reducible refine (impl_AddrOk.calls kj5 t822 _ _ t823 t826 t827 false _ ?side1 ?side2 A68.out).mono ?_);(case side1=>repeat (first|exact (Kd.R_reads' HO_830001.out).2.2|(with_reducible refine bC ?_)));(case side2=>exact (Kd.R_reads' HO_830001.out).2.1);rintro e w80 ⟨rfl,hb⟩;refine ⟨_,rfl,?_⟩;have n0_:=Am (Kd.R_below (bR HO_814001.out) hb);have n1_:=Am (Kd.R_below (bR HO_822001.out) hb);have n2_:=Am (Kd.R_below (bR HO_830001.out) hb);have n3_:=Am (blk_below (bB BK813.out) hb);have n4_:=Am (blk_below (bB BK821.out) hb);have n5_:=Am (blk_below (bB BK829.out) hb);have n6_:=Am (bT (by repeat (first|(with_reducible first|exact HB.out|apply bA|apply bN|apply bD|refine bS ?_ GE813.out|refine bS ?_ GE821.out|refine bS ?_ GE829.out)|exact HB.out)) hb);clear HO_814001 HO_822001 HO_830001 BK813 BK821 BK829 HB;have HO_814001:=n0_;have HO_822001:=n1_;have HO_830001:=n2_;have BK813:=n3_;have BK821:=n4_;have BK829:=n5_;have HB:=n6_;clear n0_ n1_ n2_ n3_ n4_ n5_ n6_;(try clear hb)))
       go_ret
       exact ⟨by first|rfl|(simp <;> rfl)|(simp [*] <;> rfl),by repeat (first|(with_reducible first|exact HB.out|apply bA|apply bN|apply bD|refine bS ?_ GE813.out|refine bS ?_ GE821.out|refine bS ?_ GE829.out)|exact HB.out)⟩

def laws_FnJoinOk.Pure:Prop:=∀ (l0:List Int),l0.length ≤ maxLen → l0.length * 1 ≤ 140737488351232 → (∀ x ∈ l0,(Lit.int .u8 x).wf = true) → ∃ k,laws_FnJoinOk.f k l0 = some true
end Go.Proofs.YtbnnamjaljohiaaDoor.P
