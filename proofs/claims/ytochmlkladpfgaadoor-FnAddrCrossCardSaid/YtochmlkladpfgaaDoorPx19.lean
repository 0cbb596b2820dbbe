-- Written by a program of this session (patch_print.py over the kit's print; given texts in wip/given).
-- Cut down by a program of this session (wip/tools/prune.py) to what its claim can name.
import Derived.Test.YtochmlkladpfgaaDoorPx0
import Derived.Test.YtochmlkladpfgaaDoorPx7
import Derived.Test.YtochmlkladpfgaaDoorPx13
import Derived.Test.YtochmlkladpfgaaDoorPx15
import Derived.Test.YtochmlkladpfgaaDoorPx16
namespace Go.Proofs.YtochmlkladpfgaaDoor.P
open Go.RowKit Go.Proofs.YtochmlkladpfgaaDoorW.PrintWords Go.Proofs.YtochmlkladpfgaaDoorW.PrintLast Go.Proofs.YtochmlkladpfgaaDoorW.PrintMore
attribute [local go_sem] max2_int min2_int max_two min_two max_three min_three max_four min_four   -- for this text's walks alone
set_option linter.unusedVariables false
set_option linter.unusedSimpArgs false
set_option maxHeartbeats 8000000
set_option maxRecDepth 100000

def laws_FnAddrCross.j0:Nat → ByteArray → Bool → Bool → Bool → ByteArray → List ByteArray → Bool → ByteArray → ByteArray → List ByteArray → Bool → ByteArray → Option (Bool)
 | 0,_,_,_,_,_,_,_,_,_,_,_,_=>none
 | k + 1,x3,x5,x7,x39,x516000,x516001,x516002,x516003,x524000,x524001,x524002,x524003=>if x39 = true then (if (x7 == x5) = true then ((laws_lpAddr.f k x524000 x524001 x524002 x524003 x516000 x516001 x516002 x516003).bind fun t525=>(some t525)) else (some false)) else (if x3.size + 2 ≤ 9223372036854775807 then ((impl_AddrRead.f k (x3 ++ (⟨#[35,120]⟩:ByteArray))).bind fun bt526=>(if (bt526.2.2.2.2 == x7) = true then ((laws_lpAddr.f k bt526.1 bt526.2.1 bt526.2.2.1 bt526.2.2.2.1 x524000 x524001 x524002 x524003).bind fun t534=>(some t534)) else (some false))) else (none))
def laws_FnAddrCross.f (k:Nat) (l0:List Int):Option (Bool):=if (l0.length:Int) > 1048576 then (some true) else ((spec_DrawAddrRead.f k l0).bind fun t507=>((spec_AddrRead.f k t507).bind fun bt508=>((impl_AddrRead.f k t507).bind fun bt516=>(if (bt516.2.2.2.2 != bt508.2.2.2.2) = true then (laws_FnAddrCross.j0 k t507 bt508.2.2.2.2 bt516.2.2.2.2 true bt508.1 bt508.2.1 bt508.2.2.1 bt508.2.2.2.1 bt516.1 bt516.2.1 bt516.2.2.1 bt516.2.2.2.1) else ((laws_lpAddr.f k bt516.1 bt516.2.1 bt516.2.2.1 bt516.2.2.2.1 bt508.1 bt508.2.1 bt508.2.2.1 bt508.2.2.2.1).bind fun t524=>(if t524 = true then (laws_FnAddrCross.j0 k t507 bt508.2.2.2.2 bt516.2.2.2.2 (decide ((wrap64 ((t507.size:Int) + 2)) > 60)) bt508.1 bt508.2.1 bt508.2.2.1 bt508.2.2.2.1 bt516.1 bt516.2.1 bt516.2.2.1 bt516.2.2.2.1) else (laws_FnAddrCross.j0 k t507 bt508.2.2.2.2 bt516.2.2.2.2 true bt508.1 bt508.2.1 bt508.2.2.1 bt508.2.2.2.1 bt516.1 bt516.2.1 bt516.2.2.1 bt516.2.2.2.1)))))))
theorem laws_FnAddrCross.mono_l:∀ k,(∀ y0 y1 y2 y3 y4 y5 y6 y7 y8 y9 y10 y11,LeO (laws_FnAddrCross.j0 k y0 y1 y2 y3 y4 y5 y6 y7 y8 y9 y10 y11) (laws_FnAddrCross.j0 (k + 1) y0 y1 y2 y3 y4 y5 y6 y7 y8 y9 y10 y11))
 | 0=>fun _ _ _ _ _ _ _ _ _ _ _ _ r h=>by simp [laws_FnAddrCross.j0] at h
 | k + 1=>by
  have ih0:=laws_FnAddrCross.mono_l k
  ·intro y0 y1 y2 y3 y4 y5 y6 y7 y8 y9 y10 y11
   unfold laws_FnAddrCross.j0
   repeat' first
   | (with_reducible exact ih0 _ _ _ _ _ _ _ _ _ _ _ _)
   | (with_reducible exact impl_AddrRead.mono _ _)
   | (with_reducible exact laws_lpAddr.mono _ _ _ _ _ _ _ _ _)
   | (with_reducible exact spec_AddrRead.mono _ _)
   | (with_reducible exact spec_DrawAddrRead.mono _ _)
   | (with_reducible exact LeO.refl _)
   | (with_reducible exact LeO.none _)
   | (with_reducible refine LeO.ite ?_ ?_)
   | (with_reducible refine LeO.bind ?_ (fun _=>?_))
   | exact ih0 _ _ _ _ _ _ _ _ _ _ _ _
   | exact impl_AddrRead.mono _ _
   | exact laws_lpAddr.mono _ _ _ _ _ _ _ _ _
   | exact spec_AddrRead.mono _ _
   | exact spec_DrawAddrRead.mono _ _
   | exact LeO.none _
   | refine LeO.ite ?_ ?_
   | refine LeO.bind ?_ (fun _=>?_)
theorem laws_FnAddrCross.mono:∀ a0 k,LeO (laws_FnAddrCross.f k a0) (laws_FnAddrCross.f (k + 1) a0):=by
 intro a0 k
 have ih0:=laws_FnAddrCross.mono_l k
 unfold laws_FnAddrCross.f
 repeat' first
   | (with_reducible exact ih0 _ _ _ _ _ _ _ _ _ _ _ _)
   | (with_reducible exact impl_AddrRead.mono _ _)
   | (with_reducible exact laws_lpAddr.mono _ _ _ _ _ _ _ _ _)
   | (with_reducible exact spec_AddrRead.mono _ _)
   | (with_reducible exact spec_DrawAddrRead.mono _ _)
   | (with_reducible exact LeO.refl _)
   | (with_reducible exact LeO.none _)
   | (with_reducible refine LeO.ite ?_ ?_)
   | (with_reducible refine LeO.bind ?_ (fun _=>?_))
   | exact ih0 _ _ _ _ _ _ _ _ _ _ _ _
   | exact impl_AddrRead.mono _ _
   | exact laws_lpAddr.mono _ _ _ _ _ _ _ _ _
   | exact spec_AddrRead.mono _ _
   | exact spec_DrawAddrRead.mono _ _
   | exact LeO.none _
   | refine LeO.ite ?_ ?_
   | refine LeO.bind ?_ (fun _=>?_)
theorem laws_FnAddrCross.calls (k:Nat) (A0:Option Addr) (c0:Nat) (l0:List Int) (r:Bool) (w:World) (hr0:Kd.C (Kd.int .u8) w A0 l0.length l0) (hc0:l0.length ≤ c0) (h:laws_FnAddrCross.f k l0 = some r) :
  Calls Tryd.prog 5 #[.slice A0 l0.length c0] w fun e w'=>e = .returned (.bool r) ∧ Below w.heap.size w w':=by
 have hu24:=Tryd.underlying24
 have HR0:=Aside0.mk hr0
 have HC0:=Aside0.mk hc0
 clear hr0 hc0
 have HB:=Aside0.mk (Below.refl w.heap.size w)
 have H:(if (l0.length:Int) > 1048576 then (some true) else ((spec_DrawAddrRead.f k l0).bind fun t507=>((spec_AddrRead.f k t507).bind fun bt508=>((impl_AddrRead.f k t507).bind fun bt516=>(if (bt516.2.2.2.2 != bt508.2.2.2.2) = true then (laws_FnAddrCross.j0 k t507 bt508.2.2.2.2 bt516.2.2.2.2 true bt508.1 bt508.2.1 bt508.2.2.1 bt508.2.2.2.1 bt516.1 bt516.2.1 bt516.2.2.1 bt516.2.2.2.1) else ((laws_lpAddr.f k bt516.1 bt516.2.1 bt516.2.2.1 bt516.2.2.2.1 bt508.1 bt508.2.1 bt508.2.2.1 bt508.2.2.2.1).bind fun t524=>(if t524 = true then (laws_FnAddrCross.j0 k t507 bt508.2.2.2.2 bt516.2.2.2.2 (decide ((wrap64 ((t507.size:Int) + 2)) > 60)) bt508.1 bt508.2.1 bt508.2.2.1 bt508.2.2.2.1 bt516.1 bt516.2.1 bt516.2.2.1 bt516.2.2.2.1) else (laws_FnAddrCross.j0 k t507 bt508.2.2.2.2 bt516.2.2.2.2 true bt508.1 bt508.2.1 bt508.2.2.1 bt508.2.2.2.1 bt516.1 bt516.2.1 bt516.2.2.1 bt516.2.2.2.1)))))))) = some r:=h
 clear h
 by_cases c2:(l0.length:Int) > 1048576
 ·rw [if_pos c2] at H
  have c2b0:decide (1048576 < (l0.length:Int)) = true:=decide_eq_true c2
  have c2b1:decide (1048576 < l0.length) = true:=decide_eq_true (by omega)
  clear c2
  obtain rfl:=Option.some.inj H
  go_enter Tryd.func5,Tryd.ntmps5
  go_wp2
  go_ret
  exact ⟨by first|rfl|(simp <;> rfl)|(simp [*] <;> rfl),by repeat (first|(with_reducible first|exact HB.out|apply below_alloc|apply pw_below_drewN|apply below_drew1)|exact HB.out)⟩
 ·rw [if_neg c2] at H
  have c2b0:decide (1048576 < (l0.length:Int)) = false:=decide_eq_false c2
  have c2b1:decide (1048576 < l0.length) = false:=decide_eq_false (by omega)
  clear c2
  replace H:=Option.bind_eq_some_iff.mp H
  obtain ⟨t507,A30,H⟩:=H
  replace H:((spec_AddrRead.f k t507).bind fun bt508=>((impl_AddrRead.f k t507).bind fun bt516=>(if (bt516.2.2.2.2 != bt508.2.2.2.2) = true then (laws_FnAddrCross.j0 k t507 bt508.2.2.2.2 bt516.2.2.2.2 true bt508.1 bt508.2.1 bt508.2.2.1 bt508.2.2.2.1 bt516.1 bt516.2.1 bt516.2.2.1 bt516.2.2.2.1) else ((laws_lpAddr.f k bt516.1 bt516.2.1 bt516.2.2.1 bt516.2.2.2.1 bt508.1 bt508.2.1 bt508.2.2.1 bt508.2.2.2.1).bind fun t524=>(if t524 = true then (laws_FnAddrCross.j0 k t507 bt508.2.2.2.2 bt516.2.2.2.2 (decide ((wrap64 ((t507.size:Int) + 2)) > 60)) bt508.1 bt508.2.1 bt508.2.2.1 bt508.2.2.2.1 bt516.1 bt516.2.1 bt516.2.2.1 bt516.2.2.2.1) else (laws_FnAddrCross.j0 k t507 bt508.2.2.2.2 bt516.2.2.2.2 true bt508.1 bt508.2.1 bt508.2.2.1 bt508.2.2.2.1 bt516.1 bt516.2.1 bt516.2.2.1 bt516.2.2.2.1)))))) = some r:=H
  have A3:=Aside0.mk A30
  clear A30
  replace H:=Option.bind_eq_some_iff.mp H
  obtain ⟨⟨t508,t509,t512,t513,t514⟩,A40,H⟩:=H
  replace H:((impl_AddrRead.f k t507).bind fun bt516=>(if (bt516.2.2.2.2 != t514) = true then (laws_FnAddrCross.j0 k t507 t514 bt516.2.2.2.2 true t508 t509 t512 t513 bt516.1 bt516.2.1 bt516.2.2.1 bt516.2.2.2.1) else ((laws_lpAddr.f k bt516.1 bt516.2.1 bt516.2.2.1 bt516.2.2.2.1 t508 t509 t512 t513).bind fun t524=>(if t524 = true then (laws_FnAddrCross.j0 k t507 t514 bt516.2.2.2.2 (decide ((wrap64 ((t507.size:Int) + 2)) > 60)) t508 t509 t512 t513 bt516.1 bt516.2.1 bt516.2.2.1 bt516.2.2.2.1) else (laws_FnAddrCross.j0 k t507 t514 bt516.2.2.2.2 true t508 t509 t512 t513 bt516.1 bt516.2.1 bt516.2.2.1 bt516.2.2.2.1))))) = some r:=H
  have A4:=Aside0.mk A40
  clear A40
  replace H:=Option.bind_eq_some_iff.mp H
  obtain ⟨⟨t516,t517,t520,t521,t522⟩,A50,H⟩:=H
  replace H:(if (t522 != t514) = true then (laws_FnAddrCross.j0 k t507 t514 t522 true t508 t509 t512 t513 t516 t517 t520 t521) else ((laws_lpAddr.f k t516 t517 t520 t521 t508 t509 t512 t513).bind fun t524=>(if t524 = true then (laws_FnAddrCross.j0 k t507 t514 t522 (decide ((wrap64 ((t507.size:Int) + 2)) > 60)) t508 t509 t512 t513 t516 t517 t520 t521) else (laws_FnAddrCross.j0 k t507 t514 t522 true t508 t509 t512 t513 t516 t517 t520 t521)))) = some r:=H
  have A5:=Aside0.mk A50
  clear A50
  have HC6:=Aside0.mk H
  clear H
  go_enter Tryd.func5,Tryd.ntmps5
  go_upto_region 6 with (first|((with_reducible refine gate_callee (f:=17) rfl ?_);refine goesL_ (some 14) rfl rfl Tryd.func17 (by kernel_rfl) rfl #[.slice A0 l0.length c0] rfl (by (try simp only [List.map_toArray,List.map_cons,List.map_nil]);first|done|rfl|(simp only [List.length_drop,List.length_take];rfl)) ?_;(with_reducible refine (spec_DrawAddrRead.calls k _ _ l0 t507 _ ?side1 ?side2 A3.out).mono ?_);(case side1=>repeat (first|exact HR0.out|(with_reducible refine Kd.C_alloc ?_ _)|(with_reducible refine Kd.C_drewN ?_ _)|(with_reducible refine Kd.C_drew ?_)));(case side2=>exact HC0.out);rintro e w7 ⟨rfl,hb⟩;refine ⟨_,rfl,?_⟩;have n0_:=Aside0.mk (below_step (by repeat (first|(with_reducible first|exact HB.out|apply below_alloc|apply pw_below_drewN|apply below_drew1)|exact HB.out)) hb);clear HB;have HB:=n0_;clear n0_;(try clear hb);(try clear hb2);(try clear hk);(try clear hi))|((with_reducible refine gate_callee (f:=8) rfl ?_);refine goesL_ (some 17) rfl rfl Tryd.func8 (by kernel_rfl) rfl #[.string t507] rfl (by (try simp only [List.map_toArray,List.map_cons,List.map_nil]);first|done|rfl|(simp only [List.length_drop,List.length_take];rfl)) ?_;(with_reducible refine (spec_AddrRead.calls k t507 t508 t509 t512 t513 t514 _ A4.out).mono ?_);rintro e w8 ⟨v510,rfl,ho0,hb⟩;refine ⟨_,rfl,?_⟩;have n0_:=Aside0.mk (Kd.R_lower ho0 (below_size (by repeat (first|(with_reducible first|exact HB.out|apply below_alloc|apply pw_below_drewN|apply below_drew1)|exact HB.out))));have n1_:=Aside0.mk (below_step (by repeat (first|(with_reducible first|exact HB.out|apply below_alloc|apply pw_below_drewN|apply below_drew1)|exact HB.out)) hb);clear HB;have HO511:=n0_;have HB:=n1_;clear n0_ n1_;(try clear hb);(try clear hb2);(try clear hk);(try clear hi);(try clear ho0))|((with_reducible refine gate_dst (N:=4) rfl ?_);(try (refine gate_guard (by rfl) ?_;dsimp only));refine box_event ?hg (N:=4) ?hd (cs:=#[.string (⟨#[]⟩:ByteArray), .slice none 0 0, .bool false, .string (⟨#[]⟩:ByteArray)]) (t:=24) ?hr ?_;(case hd=>rfl);(case hg=>rfl);(case hr=>first|(go_simp;done)|(go_simp;rfl));intro gb515 hg w9 hbox hb;have n0_:=Aside0.mk (Kd.R_below (by (with_reducible repeat (first|apply Kd.R_alloc|apply Kd.R_drewN|apply Kd.R_drew));exact HO511.out) hb);have n1_:=Aside0.mk (below_step (by repeat (first|(with_reducible first|exact HB.out|apply below_alloc|apply pw_below_drewN|apply below_drew1)|exact HB.out)) hb);have n2_:=Aside0.mk (hbox);have n3_:=Aside0.mk ((by rw [hg];exact (below_size (by repeat (first|(with_reducible first|exact HB.out|apply below_alloc|apply pw_below_drewN|apply below_drew1)|exact HB.out))):w.heap.size ≤ gb515));have n4_:=n3_;clear HO511;clear HB;have HO511:=n0_;have HB:=n1_;have BK515:=n2_;have GW515:=n3_;have GE515:=n4_;clear n0_ n1_ n2_ n3_ n4_;clear hb hbox hg;have hcz10_0:w9.cell? ⟨gb515,0,none⟩ = some (.string (⟨#[]⟩:ByteArray)):=(blk_cell BK515.out 0).trans rfl;have hcz10_1:w9.cell? ⟨gb515,1,none⟩ = some (.slice none 0 0):=(blk_cell BK515.out 1).trans rfl;have hcz10_2:w9.cell? ⟨gb515,2,none⟩ = some (.bool false):=(blk_cell BK515.out 2).trans rfl;have hcz10_3:w9.cell? ⟨gb515,3,none⟩ = some (.string (⟨#[]⟩:ByteArray)):=(blk_cell BK515.out 3).trans rfl;have hfz10_0:=blk_frozen BK515.out 0;have hfz10_1:=blk_frozen BK515.out 1;have hfz10_2:=blk_frozen BK515.out 2;have hfz10_3:=blk_frozen BK515.out 3;obtain ⟨Ao11,co11,eo11⟩:=Kd.R_slice HO511.out;subst eo11)|((with_reducible refine gate_callee (f:=9) rfl ?_);refine goesL_ (some 22) rfl rfl Tryd.func9 (by kernel_rfl) rfl #[.string t507] rfl (by (try simp only [List.map_toArray,List.map_cons,List.map_nil]);first|done|rfl|(simp only [List.length_drop,List.length_take];rfl)) ?_;(with_reducible refine (impl_AddrRead.calls k t507 t516 t517 t520 t521 t522 _ A5.out).mono ?_);rintro e w12 ⟨v518,rfl,ho0,hb⟩;refine ⟨_,rfl,?_⟩;have n0_:=Aside0.mk (Kd.R_elder' (by (with_reducible repeat (first|apply Kd.R_alloc|apply Kd.R_drewN|apply Kd.R_drew));exact (Kd.R_mono (Kd.R_far (p:=⟨gb515,3,none⟩) (Kd.R_far (p:=⟨gb515,2,none⟩) (Kd.R_far (p:=⟨gb515,1,none⟩) (Kd.R_far (p:=⟨gb515,0,none⟩) (Kd.R_types HO511.out BK515.out (by decide)) (fun _ hk=>hk.2) (.string t508)) (fun _ hk=>hk.2) (.slice Ao11 t509.length co11)) (fun _ hk=>hk.2) (.bool t512)) (fun _ hk=>hk.2) (.string t513)) (fun _ h_=>h_.1))) (Kd.R_base ho0) hb);have n1_:=Aside0.mk (Kd.R_lower (Kd.R_new' ho0 (Kd.R_lt (by (with_reducible repeat (first|apply Kd.R_alloc|apply Kd.R_drewN|apply Kd.R_drew));exact (Kd.R_mono (Kd.R_far (p:=⟨gb515,3,none⟩) (Kd.R_far (p:=⟨gb515,2,none⟩) (Kd.R_far (p:=⟨gb515,1,none⟩) (Kd.R_far (p:=⟨gb515,0,none⟩) (Kd.R_types HO511.out BK515.out (by decide)) (fun _ hk=>hk.2) (.string t508)) (fun _ hk=>hk.2) (.slice Ao11 t509.length co11)) (fun _ hk=>hk.2) (.bool t512)) (fun _ hk=>hk.2) (.string t513)) (fun _ h_=>h_.1))))) (below_size (by repeat (first|(with_reducible first|exact HB.out|apply below_alloc|apply pw_below_drewN|apply below_drew1|refine below_set ?_ GE515.out)|exact HB.out))));have n2_:=Aside0.mk (blk_below (g:=gb515) (o:=.cells #[.string t508, .slice Ao11 t509.length co11, .bool t512, .string t513] 24 (0,0)) (by (with_reducible repeat (first|refine blk_drewN ?_ _|refine blk_drew ?_|refine blk_alloc ?_ _));refine blk_put (cs:=#[.string t508, .slice Ao11 t509.length co11, .bool t512, .string (⟨#[]⟩:ByteArray)]) ?_ 3 _ rfl;(with_reducible repeat (first|refine blk_drewN ?_ _|refine blk_drew ?_|refine blk_alloc ?_ _));refine blk_put (cs:=#[.string t508, .slice Ao11 t509.length co11, .bool false, .string (⟨#[]⟩:ByteArray)]) ?_ 2 _ rfl;(with_reducible repeat (first|refine blk_drewN ?_ _|refine blk_drew ?_|refine blk_alloc ?_ _));refine blk_put (cs:=#[.string t508, .slice none 0 0, .bool false, .string (⟨#[]⟩:ByteArray)]) ?_ 1 _ rfl;(with_reducible repeat (first|refine blk_drewN ?_ _|refine blk_drew ?_|refine blk_alloc ?_ _));refine blk_put (cs:=#[.string (⟨#[]⟩:ByteArray), .slice none 0 0, .bool false, .string (⟨#[]⟩:ByteArray)]) ?_ 0 _ rfl;(with_reducible repeat (first|refine blk_drewN ?_ _|refine blk_drew ?_|refine blk_alloc ?_ _));exact BK515.out) hb);have n3_:=Aside0.mk (below_step (by repeat (first|(with_reducible first|exact HB.out|apply below_alloc|apply pw_below_drewN|apply below_drew1|refine below_set ?_ GE515.out)|exact HB.out)) hb);clear HO511;clear BK515;clear HB;have HO511:=n0_;have HO519:=n1_;have BK515:=n2_;have HB:=n3_;clear n0_ n1_ n2_ n3_;(try clear hb);(try clear hb2);(try clear hk);(try clear hi);(try clear ho0))|((with_reducible refine gate_dst (N:=6) rfl ?_);(try (refine gate_guard (by rfl) ?_;dsimp only));refine box_event ?hg (N:=6) ?hd (cs:=#[.string (⟨#[]⟩:ByteArray), .slice none 0 0, .bool false, .string (⟨#[]⟩:ByteArray)]) (t:=24) ?hr ?_;(case hd=>rfl);(case hg=>rfl);(case hr=>first|(go_simp;done)|(go_simp;rfl));intro gb523 hg w13 hbox hb;have n0_:=Aside0.mk (Kd.R_below (by (with_reducible repeat (first|apply Kd.R_alloc|apply Kd.R_drewN|apply Kd.R_drew));exact HO511.out) hb);have n1_:=Aside0.mk (Kd.R_below (by (with_reducible repeat (first|apply Kd.R_alloc|apply Kd.R_drewN|apply Kd.R_drew));exact HO519.out) hb);have n2_:=Aside0.mk (blk_below (g:=gb515) (o:=.cells #[.string t508, .slice Ao11 t509.length co11, .bool t512, .string t513] 24 (0,0)) (by (with_reducible repeat (first|refine blk_drewN ?_ _|refine blk_drew ?_|refine blk_alloc ?_ _));exact BK515.out) hb);have n3_:=Aside0.mk (below_step (by repeat (first|(with_reducible first|exact HB.out|apply below_alloc|apply pw_below_drewN|apply below_drew1|refine below_set ?_ GE515.out)|exact HB.out)) hb);have n4_:=Aside0.mk (hbox);have n5_:=Aside0.mk ((by rw [hg];exact (below_size (by repeat (first|(with_reducible first|exact HB.out|apply below_alloc|apply pw_below_drewN|apply below_drew1|refine below_set ?_ GE515.out)|exact HB.out))):w.heap.size ≤ gb523));have n6_:=n5_;have n7_:=Aside0.mk ((by rw [hg];exact Nat.ne_of_lt (blk_lt (g:=gb515) (o:=.cells #[.string t508, .slice Ao11 t509.length co11, .bool t512, .string t513] 24 (0,0)) (by (with_reducible repeat (first|refine blk_drewN ?_ _|refine blk_drew ?_|refine blk_alloc ?_ _));exact BK515.out)):gb515 ≠ gb523));have n8_:=Aside0.mk ((by rw [hg];exact Nat.ne_of_gt (blk_lt (g:=gb515) (o:=.cells #[.string t508, .slice Ao11 t509.length co11, .bool t512, .string t513] 24 (0,0)) (by (with_reducible repeat (first|refine blk_drewN ?_ _|refine blk_drew ?_|refine blk_alloc ?_ _));exact BK515.out)):gb523 ≠ gb515));clear HO511;clear HO519;clear BK515;clear HB;have HO511:=n0_;have HO519:=n1_;have BK515:=n2_;have HB:=n3_;have BK523:=n4_;have GW523:=n5_;have GE523:=n6_;have NB515_523:=n7_;have NB523_515:=n8_;clear n0_ n1_ n2_ n3_ n4_ n5_ n6_ n7_ n8_;clear hb hbox hg;have hnb14:=NB523_515.out;have hnc14:=NB515_523.out;have hcz15_0:w13.cell? ⟨gb523,0,none⟩ = some (.string (⟨#[]⟩:ByteArray)):=(blk_cell BK523.out 0).trans rfl;have hcz15_1:w13.cell? ⟨gb523,1,none⟩ = some (.slice none 0 0):=(blk_cell BK523.out 1).trans rfl;have hcz15_2:w13.cell? ⟨gb523,2,none⟩ = some (.bool false):=(blk_cell BK523.out 2).trans rfl;have hcz15_3:w13.cell? ⟨gb523,3,none⟩ = some (.string (⟨#[]⟩:ByteArray)):=(blk_cell BK523.out 3).trans rfl;have hfz15_0:=blk_frozen BK523.out 0;have hfz15_1:=blk_frozen BK523.out 1;have hfz15_2:=blk_frozen BK523.out 2;have hfz15_3:=blk_frozen BK523.out 3;obtain ⟨Ao16,co16,eo16⟩:=Kd.R_slice HO519.out;subst eo16))
  (try simp only [Act.put,List.setIfInBounds_toArray,List.set_cons_zero,List.set_cons_succ])
  go_cut [39] (fun v39 wc=>∃ (kq:Nat) (x39_5:Bool),v39 = .bool x39_5 ∧ Aside0 (laws_FnAddrCross.j0 kq t507 t514 t522 x39_5 t508 t509 t512 t513 t516 t517 t520 t521 = some r) ∧ Aside0 (kq ≤ k) ∧ Aside0 (Kd.R Kd.string 9 wc w.heap.size (fun k_=>some k_ ≠ ((.slice Ao16 t517.length co16):Value).ownBlock) (.slice Ao11 t509.length co11) t509) ∧ Aside0 (Kd.R Kd.string 9 wc w.heap.size (fun k_=>some k_ ≠ ((.slice Ao11 t509.length co11):Value).ownBlock) (.slice Ao16 t517.length co16) t517) ∧ Aside0 (wc.heap[gb515]? = some (.cells #[.string t508,(.slice Ao11 t509.length co11), .bool t512, .string t513] 24 (0,0))) ∧ Aside0 (wc.heap[gb523]? = some (.cells #[.string t516,(.slice Ao16 t517.length co16), .bool t520, .string t521] 24 (0,0))) ∧ Aside0 (Below w.heap.size w wc))
  case first =>
   have H:=HC6.out
   clear HC6
   by_cases c17:(t522 != t514) = true
   ·rw [if_pos c17] at H
    have c17b0:(t522 != t514) = true:=c17
    (try (have c17b1:decide (t522 = t514) = false:=by simpa using c17))
    (try (have c17b2:(t522 == t514) = false:=by simpa using c17))
    (try (have c17b3:¬ (t522 = t514):=by simpa using c17))
    clear c17
    (first|rw [c17b0]|(simp only [i64_w,i32_w];rw [c17b0])|skip)
    have H':=Aside0.mk H
    clear H
    go_wp2
    go_meet
    case rel=>exact ⟨_,(true),(by first|rfl|(simp;done)|(simp only [i64_w,i32_w];done)|(simp only [i64_w,i32_w];rfl)|(simp [*];done)|(simp [emp_bne,emp_beq];done)),H',⟨by first|omega|exact Nat.le_refl _⟩,⟨by (with_reducible repeat (first|apply Kd.R_alloc|apply Kd.R_drewN|apply Kd.R_drew));exact Kd.R_mono (Kd.R_far (p:=⟨gb523,3,none⟩) (Kd.R_far (p:=⟨gb523,2,none⟩) (Kd.R_far (p:=⟨gb523,1,none⟩) (Kd.R_far (p:=⟨gb523,0,none⟩) (Kd.R_types HO511.out BK523.out (by decide)) (fun _ hk=>hk.2) (.string t516)) (fun _ hk=>hk.2) (.slice Ao16 t517.length co16)) (fun _ hk=>hk.2) (.bool t520)) (fun _ hk=>hk.2) (.string t521)) (fun _ hk=>hk.1.2)⟩,⟨by (with_reducible repeat (first|apply Kd.R_alloc|apply Kd.R_drewN|apply Kd.R_drew));exact Kd.R_mono (Kd.R_far (p:=⟨gb523,3,none⟩) (Kd.R_far (p:=⟨gb523,2,none⟩) (Kd.R_far (p:=⟨gb523,1,none⟩) (Kd.R_far (p:=⟨gb523,0,none⟩) (Kd.R_types HO519.out BK523.out (by decide)) (fun _ hk=>hk.2) (.string t516)) (fun _ hk=>hk.2) (.slice Ao16 t517.length co16)) (fun _ hk=>hk.2) (.bool t520)) (fun _ hk=>hk.2) (.string t521)) (fun _ hk=>hk.1.2)⟩,⟨by (with_reducible repeat (first|refine blk_drewN ?_ _|refine blk_drew ?_|refine blk_alloc ?_ _));refine blk_far ?_ NB515_523.out _;(with_reducible repeat (first|refine blk_drewN ?_ _|refine blk_drew ?_|refine blk_alloc ?_ _));refine blk_far ?_ NB515_523.out _;(with_reducible repeat (first|refine blk_drewN ?_ _|refine blk_drew ?_|refine blk_alloc ?_ _));refine blk_far ?_ NB515_523.out _;(with_reducible repeat (first|refine blk_drewN ?_ _|refine blk_drew ?_|refine blk_alloc ?_ _));refine blk_far ?_ NB515_523.out _;(with_reducible repeat (first|refine blk_drewN ?_ _|refine blk_drew ?_|refine blk_alloc ?_ _));exact BK515.out⟩,⟨by (with_reducible repeat (first|refine blk_drewN ?_ _|refine blk_drew ?_|refine blk_alloc ?_ _));refine blk_put (cs:=#[.string t516, .slice Ao16 t517.length co16, .bool t520, .string (⟨#[]⟩:ByteArray)]) ?_ 3 _ rfl;(with_reducible repeat (first|refine blk_drewN ?_ _|refine blk_drew ?_|refine blk_alloc ?_ _));refine blk_put (cs:=#[.string t516, .slice Ao16 t517.length co16, .bool false, .string (⟨#[]⟩:ByteArray)]) ?_ 2 _ rfl;(with_reducible repeat (first|refine blk_drewN ?_ _|refine blk_drew ?_|refine blk_alloc ?_ _));refine blk_put (cs:=#[.string t516, .slice none 0 0, .bool false, .string (⟨#[]⟩:ByteArray)]) ?_ 1 _ rfl;(with_reducible repeat (first|refine blk_drewN ?_ _|refine blk_drew ?_|refine blk_alloc ?_ _));refine blk_put (cs:=#[.string (⟨#[]⟩:ByteArray), .slice none 0 0, .bool false, .string (⟨#[]⟩:ByteArray)]) ?_ 0 _ rfl;(with_reducible repeat (first|refine blk_drewN ?_ _|refine blk_drew ?_|refine blk_alloc ?_ _));exact BK523.out⟩,⟨by repeat (first|(with_reducible first|exact HB.out|apply below_alloc|apply pw_below_drewN|apply below_drew1|refine below_set ?_ GE515.out|refine below_set ?_ GE523.out)|exact HB.out)⟩⟩
   ·rw [if_neg c17] at H
    have c17b0:(t522 != t514) = false:=by simpa using c17
    (try (have c17b1:decide (t522 = t514) = true:=by simpa using c17))
    (try (have c17b2:(t522 == t514) = true:=by simpa using c17))
    clear c17
    (first|rw [c17b0]|(simp only [i64_w,i32_w];rw [c17b0])|skip)
    replace H:=Option.bind_eq_some_iff.mp H
    obtain ⟨t524,A180,H⟩:=H
    replace H:(if t524 = true then (laws_FnAddrCross.j0 k t507 t514 t522 (decide ((wrap64 ((t507.size:Int) + 2)) > 60)) t508 t509 t512 t513 t516 t517 t520 t521) else (laws_FnAddrCross.j0 k t507 t514 t522 true t508 t509 t512 t513 t516 t517 t520 t521)) = some r:=H
    have A18:=Aside0.mk A180
    clear A180
    by_cases c19:t524 = true
    ·subst c19
     have H1:(laws_FnAddrCross.j0 k t507 t514 t522 (decide ((wrap64 ((t507.size:Int) + 2)) > 60)) t508 t509 t512 t513 t516 t517 t520 t521) = some r:=by rw [if_pos rfl] at H;exact H
     clear H
     have H:=H1
     clear H1
     have H':=Aside0.mk H
     clear H
     have hnb20:=NB523_515.out
     have hnc20:=NB515_523.out
     have hcz21_0:w13.cell? ⟨gb523,0,none⟩ = some (.string (⟨#[]⟩:ByteArray)):=(blk_cell BK523.out 0).trans rfl
     have hcz21_1:w13.cell? ⟨gb523,1,none⟩ = some (.slice none 0 0):=(blk_cell BK523.out 1).trans rfl
     have hcz21_2:w13.cell? ⟨gb523,2,none⟩ = some (.bool false):=(blk_cell BK523.out 2).trans rfl
     have hcz21_3:w13.cell? ⟨gb523,3,none⟩ = some (.string (⟨#[]⟩:ByteArray)):=(blk_cell BK523.out 3).trans rfl
     have hfz21_0:=blk_frozen BK523.out 0
     have hfz21_1:=blk_frozen BK523.out 1
     have hfz21_2:=blk_frozen BK523.out 2
     have hfz21_3:=blk_frozen BK523.out 3
     have hcz22_0:w13.cell? ⟨gb515,0,none⟩ = some (.string t508):=(blk_cell BK515.out 0).trans rfl
     have hcz22_1:w13.cell? ⟨gb515,1,none⟩ = some (.slice Ao11 t509.length co11):=(blk_cell BK515.out 1).trans rfl
     have hcz22_2:w13.cell? ⟨gb515,2,none⟩ = some (.bool t512):=(blk_cell BK515.out 2).trans rfl
     have hcz22_3:w13.cell? ⟨gb515,3,none⟩ = some (.string t513):=(blk_cell BK515.out 3).trans rfl
     have hfz22_0:=blk_frozen BK515.out 0
     have hfz22_1:=blk_frozen BK515.out 1
     have hfz22_2:=blk_frozen BK515.out 2
     have hfz22_3:=blk_frozen BK515.out 3
     go_wp2_with (first|(go_at_call 16;(with_reducible refine (laws_lpAddr.calls k t516 _ _ t517 t520 t521 t508 _ _ t509 t512 t513 true _ ?side1 ?side2 ?side3 ?side4 A18.out).mono ?_);(case side1=>refine (Kd.R_reads' (e:=9) (base:=w.heap.size) (ok:=fun k_=>(True ∧ some k_ ≠ (.slice Ao11 t509.length co11:Value).ownBlock)) (n:=t517.length) (c:=co16) ?_).2.2;exact (by (with_reducible repeat (first|apply Kd.R_alloc|apply Kd.R_drewN|apply Kd.R_drew));exact (Kd.R_mono (Kd.R_far (p:=⟨gb523,3,none⟩) (Kd.R_far (p:=⟨gb523,2,none⟩) (Kd.R_far (p:=⟨gb523,1,none⟩) (Kd.R_far (p:=⟨gb523,0,none⟩) (Kd.R_types HO519.out BK523.out (by decide)) (fun _ hk=>hk.2) (.string t516)) (fun _ hk=>hk.2) (.slice Ao16 t517.length co16)) (fun _ hk=>hk.2) (.bool t520)) (fun _ hk=>hk.2) (.string t521)) (fun _ h_=>h_.1))));(case side2=>exact (Kd.R_reads' HO519.out).2.1);(case side3=>refine (Kd.R_reads' (e:=9) (base:=w.heap.size) (ok:=fun k_=>(True ∧ some k_ ≠ (.slice Ao16 t517.length co16:Value).ownBlock)) (n:=t509.length) (c:=co11) ?_).2.2;exact (by (with_reducible repeat (first|apply Kd.R_alloc|apply Kd.R_drewN|apply Kd.R_drew));exact (Kd.R_mono (Kd.R_far (p:=⟨gb523,3,none⟩) (Kd.R_far (p:=⟨gb523,2,none⟩) (Kd.R_far (p:=⟨gb523,1,none⟩) (Kd.R_far (p:=⟨gb523,0,none⟩) (Kd.R_types HO511.out BK523.out (by decide)) (fun _ hk=>hk.2) (.string t516)) (fun _ hk=>hk.2) (.slice Ao16 t517.length co16)) (fun _ hk=>hk.2) (.bool t520)) (fun _ hk=>hk.2) (.string t521)) (fun _ h_=>h_.1))));(case side4=>exact (Kd.R_reads' HO511.out).2.1);rintro e w23 ⟨rfl,hb⟩;have n0_:=Aside0.mk (Kd.R_below (by (with_reducible repeat (first|apply Kd.R_alloc|apply Kd.R_drewN|apply Kd.R_drew));exact (Kd.R_mono (Kd.R_far (p:=⟨gb523,3,none⟩) (Kd.R_far (p:=⟨gb523,2,none⟩) (Kd.R_far (p:=⟨gb523,1,none⟩) (Kd.R_far (p:=⟨gb523,0,none⟩) (Kd.R_types HO511.out BK523.out (by decide)) (fun _ hk=>hk.2) (.string t516)) (fun _ hk=>hk.2) (.slice Ao16 t517.length co16)) (fun _ hk=>hk.2) (.bool t520)) (fun _ hk=>hk.2) (.string t521)) (fun _ h_=>h_.1))) hb);have n1_:=Aside0.mk (Kd.R_below (by (with_reducible repeat (first|apply Kd.R_alloc|apply Kd.R_drewN|apply Kd.R_drew));exact (Kd.R_mono (Kd.R_far (p:=⟨gb523,3,none⟩) (Kd.R_far (p:=⟨gb523,2,none⟩) (Kd.R_far (p:=⟨gb523,1,none⟩) (Kd.R_far (p:=⟨gb523,0,none⟩) (Kd.R_types HO519.out BK523.out (by decide)) (fun _ hk=>hk.2) (.string t516)) (fun _ hk=>hk.2) (.slice Ao16 t517.length co16)) (fun _ hk=>hk.2) (.bool t520)) (fun _ hk=>hk.2) (.string t521)) (fun _ h_=>h_.1))) hb);have n2_:=Aside0.mk (blk_below (g:=gb515) (o:=.cells #[.string t508, .slice Ao11 t509.length co11, .bool t512, .string t513] 24 (0,0)) (by (with_reducible repeat (first|refine blk_drewN ?_ _|refine blk_drew ?_|refine blk_alloc ?_ _));refine blk_far ?_ NB515_523.out _;(with_reducible repeat (first|refine blk_drewN ?_ _|refine blk_drew ?_|refine blk_alloc ?_ _));refine blk_far ?_ NB515_523.out _;(with_reducible repeat (first|refine blk_drewN ?_ _|refine blk_drew ?_|refine blk_alloc ?_ _));refine blk_far ?_ NB515_523.out _;(with_reducible repeat (first|refine blk_drewN ?_ _|refine blk_drew ?_|refine blk_alloc ?_ _));refine blk_far ?_ NB515_523.out _;(with_reducible repeat (first|refine blk_drewN ?_ _|refine blk_drew ?_|refine blk_alloc ?_ _));exact BK515.out) hb);have n3_:=Aside0.mk (blk_below (g:=gb523) (o:=.cells #[.string t516, .slice Ao16 t517.length co16, .bool t520, .string t521] 24 (0,0)) (by (with_reducible repeat (first|refine blk_drewN ?_ _|refine blk_drew ?_|refine blk_alloc ?_ _));refine blk_put (cs:=#[.string t516, .slice Ao16 t517.length co16, .bool t520, .string (⟨#[]⟩:ByteArray)]) ?_ 3 _ rfl;(with_reducible repeat (first|refine blk_drewN ?_ _|refine blk_drew ?_|refine blk_alloc ?_ _));refine blk_put (cs:=#[.string t516, .slice Ao16 t517.length co16, .bool false, .string (⟨#[]⟩:ByteArray)]) ?_ 2 _ rfl;(with_reducible repeat (first|refine blk_drewN ?_ _|refine blk_drew ?_|refine blk_alloc ?_ _));refine blk_put (cs:=#[.string t516, .slice none 0 0, .bool false, .string (⟨#[]⟩:ByteArray)]) ?_ 1 _ rfl;(with_reducible repeat (first|refine blk_drewN ?_ _|refine blk_drew ?_|refine blk_alloc ?_ _));refine blk_put (cs:=#[.string (⟨#[]⟩:ByteArray), .slice none 0 0, .bool false, .string (⟨#[]⟩:ByteArray)]) ?_ 0 _ rfl;(with_reducible repeat (first|refine blk_drewN ?_ _|refine blk_drew ?_|refine blk_alloc ?_ _));exact BK523.out) hb);have n4_:=Aside0.mk (below_step (by repeat (first|(with_reducible first|exact HB.out|apply below_alloc|apply pw_below_drewN|apply below_drew1|refine below_set ?_ GE515.out|refine below_set ?_ GE523.out)|exact HB.out)) hb);clear HO511;clear HO519;clear BK515;clear BK523;clear HB;have HO511:=n0_;have HO519:=n1_;have BK515:=n2_;have BK523:=n3_;have HB:=n4_;clear n0_ n1_ n2_ n3_ n4_;(try clear hb);(try clear hb2);(try clear hk);(try clear hi)))
     go_meet
     case rel=>exact ⟨_,(decide ((wrap64 ((t507.size:Int) + 2)) > 60)),(by first|rfl|(simp;done)|(simp only [i64_w,i32_w];done)|(simp only [i64_w,i32_w];rfl)|(simp [*];done)|(simp [emp_bne,emp_beq];done)),H',⟨by first|omega|exact Nat.le_refl _⟩,⟨by (with_reducible repeat (first|apply Kd.R_alloc|apply Kd.R_drewN|apply Kd.R_drew));exact Kd.R_mono HO511.out (fun _ hk=>hk.2)⟩,⟨by (with_reducible repeat (first|apply Kd.R_alloc|apply Kd.R_drewN|apply Kd.R_drew));exact Kd.R_mono HO519.out (fun _ hk=>hk.2)⟩,⟨by (with_reducible repeat (first|refine blk_drewN ?_ _|refine blk_drew ?_|refine blk_alloc ?_ _));exact BK515.out⟩,⟨by (with_reducible repeat (first|refine blk_drewN ?_ _|refine blk_drew ?_|refine blk_alloc ?_ _));exact BK523.out⟩,⟨by repeat (first|(with_reducible first|exact HB.out|apply below_alloc|apply pw_below_drewN|apply below_drew1|refine below_set ?_ GE515.out|refine below_set ?_ GE523.out)|exact HB.out)⟩⟩
    ·replace c19:=Bool.eq_false_iff.mpr c19
     subst c19
     have H1:(laws_FnAddrCross.j0 k t507 t514 t522 true t508 t509 t512 t513 t516 t517 t520 t521) = some r:=by rw [if_neg (show ¬ (false = true) by decide)] at H;exact H
     clear H
     have H:=H1
     clear H1
     have H':=Aside0.mk H
     clear H
     have hnb24:=NB523_515.out
     have hnc24:=NB515_523.out
     have hcz25_0:w13.cell? ⟨gb523,0,none⟩ = some (.string (⟨#[]⟩:ByteArray)):=(blk_cell BK523.out 0).trans rfl
     have hcz25_1:w13.cell? ⟨gb523,1,none⟩ = some (.slice none 0 0):=(blk_cell BK523.out 1).trans rfl
     have hcz25_2:w13.cell? ⟨gb523,2,none⟩ = some (.bool false):=(blk_cell BK523.out 2).trans rfl
     have hcz25_3:w13.cell? ⟨gb523,3,none⟩ = some (.string (⟨#[]⟩:ByteArray)):=(blk_cell BK523.out 3).trans rfl
     have hfz25_0:=blk_frozen BK523.out 0
     have hfz25_1:=blk_frozen BK523.out 1
     have hfz25_2:=blk_frozen BK523.out 2
     have hfz25_3:=blk_frozen BK523.out 3
     have hcz26_0:w13.cell? ⟨gb515,0,none⟩ = some (.string t508):=(blk_cell BK515.out 0).trans rfl
     have hcz26_1:w13.cell? ⟨gb515,1,none⟩ = some (.slice Ao11 t509.length co11):=(blk_cell BK515.out 1).trans rfl
     have hcz26_2:w13.cell? ⟨gb515,2,none⟩ = some (.bool t512):=(blk_cell BK515.out 2).trans rfl
     have hcz26_3:w13.cell? ⟨gb515,3,none⟩ = some (.string t513):=(blk_cell BK515.out 3).trans rfl
     have hfz26_0:=blk_frozen BK515.out 0
     have hfz26_1:=blk_frozen BK515.out 1
     have hfz26_2:=blk_frozen BK515.out 2
     have hfz26_3:=blk_frozen BK515.out 3
     go_wp2_with (first|(go_at_call 16;(with_reducible refine (laws_lpAddr.calls k t516 _ _ t517 t520 t521 t508 _ _ t509 t512 t513 false _ ?side1 ?side2 ?side3 ?side4 A18.out).mono ?_);(case side1=>refine (Kd.R_reads' (e:=9) (base:=w.heap.size) (ok:=fun k_=>(True ∧ some k_ ≠ (.slice Ao11 t509.length co11:Value).ownBlock)) (n:=t517.length) (c:=co16) ?_).2.2;exact (by (with_reducible repeat (first|apply Kd.R_alloc|apply Kd.R_drewN|apply Kd.R_drew));exact (Kd.R_mono (Kd.R_far (p:=⟨gb523,3,none⟩) (Kd.R_far (p:=⟨gb523,2,none⟩) (Kd.R_far (p:=⟨gb523,1,none⟩) (Kd.R_far (p:=⟨gb523,0,none⟩) (Kd.R_types HO519.out BK523.out (by decide)) (fun _ hk=>hk.2) (.string t516)) (fun _ hk=>hk.2) (.slice Ao16 t517.length co16)) (fun _ hk=>hk.2) (.bool t520)) (fun _ hk=>hk.2) (.string t521)) (fun _ h_=>h_.1))));(case side2=>exact (Kd.R_reads' HO519.out).2.1);(case side3=>refine (Kd.R_reads' (e:=9) (base:=w.heap.size) (ok:=fun k_=>(True ∧ some k_ ≠ (.slice Ao16 t517.length co16:Value).ownBlock)) (n:=t509.length) (c:=co11) ?_).2.2;exact (by (with_reducible repeat (first|apply Kd.R_alloc|apply Kd.R_drewN|apply Kd.R_drew));exact (Kd.R_mono (Kd.R_far (p:=⟨gb523,3,none⟩) (Kd.R_far (p:=⟨gb523,2,none⟩) (Kd.R_far (p:=⟨gb523,1,none⟩) (Kd.R_far (p:=⟨gb523,0,none⟩) (Kd.R_types HO511.out BK523.out (by decide)) (fun _ hk=>hk.2) (.string t516)) (fun _ hk=>hk.2) (.slice Ao16 t517.length co16)) (fun _ hk=>hk.2) (.bool t520)) (fun _ hk=>hk.2) (.string t521)) (fun _ h_=>h_.1))));(case side4=>exact (Kd.R_reads' HO511.out).2.1);rintro e w27 ⟨rfl,hb⟩;have n0_:=Aside0.mk (Kd.R_below (by (with_reducible repeat (first|apply Kd.R_alloc|apply Kd.R_drewN|apply Kd.R_drew));exact (Kd.R_mono (Kd.R_far (p:=⟨gb523,3,none⟩) (Kd.R_far (p:=⟨gb523,2,none⟩) (Kd.R_far (p:=⟨gb523,1,none⟩) (Kd.R_far (p:=⟨gb523,0,none⟩) (Kd.R_types HO511.out BK523.out (by decide)) (fun _ hk=>hk.2) (.string t516)) (fun _ hk=>hk.2) (.slice Ao16 t517.length co16)) (fun _ hk=>hk.2) (.bool t520)) (fun _ hk=>hk.2) (.string t521)) (fun _ h_=>h_.1))) hb);have n1_:=Aside0.mk (Kd.R_below (by (with_reducible repeat (first|apply Kd.R_alloc|apply Kd.R_drewN|apply Kd.R_drew));exact (Kd.R_mono (Kd.R_far (p:=⟨gb523,3,none⟩) (Kd.R_far (p:=⟨gb523,2,none⟩) (Kd.R_far (p:=⟨gb523,1,none⟩) (Kd.R_far (p:=⟨gb523,0,none⟩) (Kd.R_types HO519.out BK523.out (by decide)) (fun _ hk=>hk.2) (.string t516)) (fun _ hk=>hk.2) (.slice Ao16 t517.length co16)) (fun _ hk=>hk.2) (.bool t520)) (fun _ hk=>hk.2) (.string t521)) (fun _ h_=>h_.1))) hb);have n2_:=Aside0.mk (blk_below (g:=gb515) (o:=.cells #[.string t508, .slice Ao11 t509.length co11, .bool t512, .string t513] 24 (0,0)) (by (with_reducible repeat (first|refine blk_drewN ?_ _|refine blk_drew ?_|refine blk_alloc ?_ _));refine blk_far ?_ NB515_523.out _;(with_reducible repeat (first|refine blk_drewN ?_ _|refine blk_drew ?_|refine blk_alloc ?_ _));refine blk_far ?_ NB515_523.out _;(with_reducible repeat (first|refine blk_drewN ?_ _|refine blk_drew ?_|refine blk_alloc ?_ _));refine blk_far ?_ NB515_523.out _;(with_reducible repeat (first|refine blk_drewN ?_ _|refine blk_drew ?_|refine blk_alloc ?_ _));refine blk_far ?_ NB515_523.out _;(with_reducible repeat (first|refine blk_drewN ?_ _|refine blk_drew ?_|refine blk_alloc ?_ _));exact BK515.out) hb);have n3_:=Aside0.mk (blk_below (g:=gb523) (o:=.cells #[.string t516, .slice Ao16 t517.length co16, .bool t520, .string t521] 24 (0,0)) (by (with_reducible repeat (first|refine blk_drewN ?_ _|refine blk_drew ?_|refine blk_alloc ?_ _));refine blk_put (cs:=#[.string t516, .slice Ao16 t517.length co16, .bool t520, .string (⟨#[]⟩:ByteArray)]) ?_ 3 _ rfl;(with_reducible repeat (first|refine blk_drewN ?_ _|refine blk_drew ?_|refine blk_alloc ?_ _));refine blk_put (cs:=#[.string t516, .slice Ao16 t517.length co16, .bool false, .string (⟨#[]⟩:ByteArray)]) ?_ 2 _ rfl;(with_reducible repeat (first|refine blk_drewN ?_ _|refine blk_drew ?_|refine blk_alloc ?_ _));refine blk_put (cs:=#[.string t516, .slice none 0 0, .bool false, .string (⟨#[]⟩:ByteArray)]) ?_ 1 _ rfl;(with_reducible repeat (first|refine blk_drewN ?_ _|refine blk_drew ?_|refine blk_alloc ?_ _));refine blk_put (cs:=#[.string (⟨#[]⟩:ByteArray), .slice none 0 0, .bool false, .string (⟨#[]⟩:ByteArray)]) ?_ 0 _ rfl;(with_reducible repeat (first|refine blk_drewN ?_ _|refine blk_drew ?_|refine blk_alloc ?_ _));exact BK523.out) hb);have n4_:=Aside0.mk (below_step (by repeat (first|(with_reducible first|exact HB.out|apply below_alloc|apply pw_below_drewN|apply below_drew1|refine below_set ?_ GE515.out|refine below_set ?_ GE523.out)|exact HB.out)) hb);clear HO511;clear HO519;clear BK515;clear BK523;clear HB;have HO511:=n0_;have HO519:=n1_;have BK515:=n2_;have BK523:=n3_;have HB:=n4_;clear n0_ n1_ n2_ n3_ n4_;(try clear hb);(try clear hb2);(try clear hk);(try clear hi)))
     go_meet
     case rel=>exact ⟨_,(true),(by first|rfl|(simp;done)|(simp only [i64_w,i32_w];done)|(simp only [i64_w,i32_w];rfl)|(simp [*];done)|(simp [emp_bne,emp_beq];done)),H',⟨by first|omega|exact Nat.le_refl _⟩,⟨by (with_reducible repeat (first|apply Kd.R_alloc|apply Kd.R_drewN|apply Kd.R_drew));exact Kd.R_mono HO511.out (fun _ hk=>hk.2)⟩,⟨by (with_reducible repeat (first|apply Kd.R_alloc|apply Kd.R_drewN|apply Kd.R_drew));exact Kd.R_mono HO519.out (fun _ hk=>hk.2)⟩,⟨by (with_reducible repeat (first|refine blk_drewN ?_ _|refine blk_drew ?_|refine blk_alloc ?_ _));exact BK515.out⟩,⟨by (with_reducible repeat (first|refine blk_drewN ?_ _|refine blk_drew ?_|refine blk_alloc ?_ _));exact BK523.out⟩,⟨by repeat (first|(with_reducible first|exact HB.out|apply below_alloc|apply pw_below_drewN|apply below_drew1|refine below_set ?_ GE515.out|refine below_set ?_ GE523.out)|exact HB.out)⟩⟩
  case rest =>
   clear HC6
   try clear c1
   try clear c2
   try clear c2b0
   try clear c2b1
   try clear p2
   try clear c5
   try clear p6
   try clear c8
   try clear c9
   try clear c14
   try clear c17
   try clear c17b0
   try clear c17b1
   try clear c17b2
   try clear c19
   try clear c20
   try clear c24
   try clear hcz10_0
   try clear hcz10_1
   try clear hcz10_2
   try clear hcz10_3
   try clear hcz15_0
   try clear hcz15_1
   try clear hcz15_2
   try clear hcz15_3
   try clear hcz21_0
   try clear hcz21_1
   try clear hcz21_2
   try clear hcz21_3
   try clear hcz22_0
   try clear hcz22_1
   try clear hcz22_2
   try clear hcz22_3
   try clear hcz25_0
   try clear hcz25_1
   try clear hcz25_2
   try clear hcz25_3
   try clear hcz26_0
   try clear hcz26_1
   try clear hcz26_2
   try clear hcz26_3
   try clear hfz10_0
   try clear hfz10_1
   try clear hfz10_2
   try clear hfz10_3
   try clear hfz15_0
   try clear hfz15_1
   try clear hfz15_2
   try clear hfz15_3
   try clear hfz21_0
   try clear hfz21_1
   try clear hfz21_2
   try clear hfz21_3
   try clear hfz22_0
   try clear hfz22_1
   try clear hfz22_2
   try clear hfz22_3
   try clear hfz25_0
   try clear hfz25_1
   try clear hfz25_2
   try clear hfz25_3
   try clear hfz26_0
   try clear hfz26_1
   try clear hfz26_2
   try clear hfz26_3
   obtain ⟨kq,x39_5,rfl,HA,HJ5,HO_516001,HO_524001,BK515,BK523,HB⟩:=hcut
   cases kq with
   | zero=>exact absurd HA.out (by simp [laws_FnAddrCross.j0])
   | succ kj5 =>
    have H:=HA.out
    clear HA
    simp only [laws_FnAddrCross.j0] at H
    by_cases c28:x39_5 = true
    ·subst c28
     have H1:(if (t522 == t514) = true then ((laws_lpAddr.f kj5 t516 t517 t520 t521 t508 t509 t512 t513).bind fun t525=>(some t525)) else (some false)) = some r:=by rw [if_pos rfl] at H;exact H
     clear H
     have H:=H1
     clear H1
     by_cases c29:(t522 == t514) = true
     ·rw [if_pos c29] at H
      have c29b0:(t522 == t514) = true:=c29
      (try (have c29b1:decide (t522 = t514) = true:=by simpa using c29))
      (try (have c29b2:(t522 == t514) = true:=by simpa using c29))
      clear c29
      replace H:=Option.bind_eq_some_iff.mp H
      obtain ⟨t525,A300,H⟩:=H
      replace H:(some t525) = some r:=H
      have A30:=Aside0.mk A300
      clear A300
      obtain rfl:=Option.some.inj H
      have hnb31:=NB523_515.out
      have hnc31:=NB515_523.out
      have hcz32_0:wc.cell? ⟨gb523,0,none⟩ = some (.string t516):=(blk_cell BK523.out 0).trans rfl
      have hcz32_1:wc.cell? ⟨gb523,1,none⟩ = some (.slice Ao16 t517.length co16):=(blk_cell BK523.out 1).trans rfl
      have hcz32_2:wc.cell? ⟨gb523,2,none⟩ = some (.bool t520):=(blk_cell BK523.out 2).trans rfl
      have hcz32_3:wc.cell? ⟨gb523,3,none⟩ = some (.string t521):=(blk_cell BK523.out 3).trans rfl
      have hfz32_0:=blk_frozen BK523.out 0
      have hfz32_1:=blk_frozen BK523.out 1
      have hfz32_2:=blk_frozen BK523.out 2
      have hfz32_3:=blk_frozen BK523.out 3
      have hcz33_0:wc.cell? ⟨gb515,0,none⟩ = some (.string t508):=(blk_cell BK515.out 0).trans rfl
      have hcz33_1:wc.cell? ⟨gb515,1,none⟩ = some (.slice Ao11 t509.length co11):=(blk_cell BK515.out 1).trans rfl
      have hcz33_2:wc.cell? ⟨gb515,2,none⟩ = some (.bool t512):=(blk_cell BK515.out 2).trans rfl
      have hcz33_3:wc.cell? ⟨gb515,3,none⟩ = some (.string t513):=(blk_cell BK515.out 3).trans rfl
      have hfz33_0:=blk_frozen BK515.out 0
      have hfz33_1:=blk_frozen BK515.out 1
      have hfz33_2:=blk_frozen BK515.out 2
      have hfz33_3:=blk_frozen BK515.out 3
      go_wp2_with (first|(go_at_call 16;(with_reducible refine (laws_lpAddr.calls kj5 t516 _ _ t517 t520 t521 t508 _ _ t509 t512 t513 t525 _ ?side1 ?side2 ?side3 ?side4 A30.out).mono ?_);(case side1=>repeat (first|exact (Kd.R_reads' HO_524001.out).2.2|(with_reducible refine Kd.C_alloc ?_ _)|(with_reducible refine Kd.C_drewN ?_ _)|(with_reducible refine Kd.C_drew ?_)));(case side2=>exact (Kd.R_reads' HO_524001.out).2.1);(case side3=>repeat (first|exact (Kd.R_reads' HO_516001.out).2.2|(with_reducible refine Kd.C_alloc ?_ _)|(with_reducible refine Kd.C_drewN ?_ _)|(with_reducible refine Kd.C_drew ?_)));(case side4=>exact (Kd.R_reads' HO_516001.out).2.1);rintro e w34 ⟨rfl,hb⟩;have n0_:=Aside0.mk (Kd.R_below (by (with_reducible repeat (first|apply Kd.R_alloc|apply Kd.R_drewN|apply Kd.R_drew));exact HO_516001.out) hb);have n1_:=Aside0.mk (Kd.R_below (by (with_reducible repeat (first|apply Kd.R_alloc|apply Kd.R_drewN|apply Kd.R_drew));exact HO_524001.out) hb);have n2_:=Aside0.mk (blk_below (g:=gb515) (o:=.cells #[.string t508, .slice Ao11 t509.length co11, .bool t512, .string t513] 24 (0,0)) (by (with_reducible repeat (first|refine blk_drewN ?_ _|refine blk_drew ?_|refine blk_alloc ?_ _));exact BK515.out) hb);have n3_:=Aside0.mk (blk_below (g:=gb523) (o:=.cells #[.string t516, .slice Ao16 t517.length co16, .bool t520, .string t521] 24 (0,0)) (by (with_reducible repeat (first|refine blk_drewN ?_ _|refine blk_drew ?_|refine blk_alloc ?_ _));exact BK523.out) hb);have n4_:=Aside0.mk (below_step (by repeat (first|(with_reducible first|exact HB.out|apply below_alloc|apply pw_below_drewN|apply below_drew1|refine below_set ?_ GE515.out|refine below_set ?_ GE523.out)|exact HB.out)) hb);clear HO_516001;clear HO_524001;clear BK515;clear BK523;clear HB;have HO_516001:=n0_;have HO_524001:=n1_;have BK515:=n2_;have BK523:=n3_;have HB:=n4_;clear n0_ n1_ n2_ n3_ n4_;(try clear hb);(try clear hb2);(try clear hk);(try clear hi)))
      go_ret
      exact ⟨by first|rfl|(simp <;> rfl)|(simp [*] <;> rfl),by repeat (first|(with_reducible first|exact HB.out|apply below_alloc|apply pw_below_drewN|apply below_drew1|refine below_set ?_ GE515.out|refine below_set ?_ GE523.out)|exact HB.out)⟩
     ·rw [if_neg c29] at H
      have c29b0:(t522 == t514) = false:=by simpa using c29
      (try (have c29b1:decide (t522 = t514) = false:=by simpa using c29))
      (try (have c29b2:(t522 == t514) = false:=by simpa using c29))
      (try (have c29b3:¬ (t522 = t514):=by simpa using c29))
      clear c29
      obtain rfl:=Option.some.inj H
      go_wp2
      go_ret
      exact ⟨by first|rfl|(simp <;> rfl)|(simp [*] <;> rfl),by repeat (first|(with_reducible first|exact HB.out|apply below_alloc|apply pw_below_drewN|apply below_drew1|refine below_set ?_ GE515.out|refine below_set ?_ GE523.out)|exact HB.out)⟩
    ·replace c28:=Bool.eq_false_iff.mpr c28
     subst c28
     have H1:(if t507.size + 2 ≤ 9223372036854775807 then ((impl_AddrRead.f kj5 (t507 ++ (⟨#[35,120]⟩:ByteArray))).bind fun bt526=>(if (bt526.2.2.2.2 == t522) = true then ((laws_lpAddr.f kj5 bt526.1 bt526.2.1 bt526.2.2.1 bt526.2.2.2.1 t516 t517 t520 t521).bind fun t534=>(some t534)) else (some false))) else (none)) = some r:=by rw [if_neg (show ¬ (false = true) by decide)] at H;exact H
     clear H
     have H:=H1
     clear H1
     by_cases c35:t507.size + 2 ≤ 9223372036854775807
     ·rw [if_pos c35] at H
      have c35b0:=eq_true c35
      have c35b1:=decide_eq_true c35
      try have c35b2:(9223372036854775807 < t507.size + 2) = False:=eq_false (Nat.not_lt.2 c35)
      replace H:=Option.bind_eq_some_iff.mp H
      obtain ⟨⟨t526,t527,t530,t531,t532⟩,A360,H⟩:=H
      replace H:(if (t532 == t522) = true then ((laws_lpAddr.f kj5 t526 t527 t530 t531 t516 t517 t520 t521).bind fun t534=>(some t534)) else (some false)) = some r:=H
      have A36:=Aside0.mk A360
      clear A360
      by_cases c37:(t532 == t522) = true
      ·rw [if_pos c37] at H
       have c37b0:(t532 == t522) = true:=c37
       (try (have c37b1:decide (t532 = t522) = true:=by simpa using c37))
       (try (have c37b2:(t532 == t522) = true:=by simpa using c37))
       clear c37
       replace H:=Option.bind_eq_some_iff.mp H
       obtain ⟨t534,A380,H⟩:=H
       replace H:(some t534) = some r:=H
       have A38:=Aside0.mk A380
       clear A380
       obtain rfl:=Option.some.inj H
       go_wp2_with (first|((with_reducible refine gate_callee (f:=9) rfl ?_);refine goesL_ (some 51) rfl rfl Tryd.func9 (by kernel_rfl) rfl #[.string (t507 ++ (⟨#[35,120]⟩:ByteArray))] rfl (by (try simp only [List.map_toArray,List.map_cons,List.map_nil]);first|done|rfl|(simp only [List.length_drop,List.length_take];rfl)) ?_;(with_reducible refine (impl_AddrRead.calls kj5 (t507 ++ (⟨#[35,120]⟩:ByteArray)) t526 t527 t530 t531 t532 _ A36.out).mono ?_);rintro e w39 ⟨v528,rfl,ho0,hb⟩;refine ⟨_,rfl,?_⟩;have n0_:=Aside0.mk (Kd.R_elder' (by (with_reducible repeat (first|apply Kd.R_alloc|apply Kd.R_drewN|apply Kd.R_drew));exact HO_516001.out) (Kd.R_base ho0) hb);have n1_:=Aside0.mk (Kd.R_elder' (by (with_reducible repeat (first|apply Kd.R_alloc|apply Kd.R_drewN|apply Kd.R_drew));exact HO_524001.out) (Kd.R_base ho0) hb);have n2_:=Aside0.mk (Kd.R_lower (Kd.R_new' (Kd.R_new' ho0 (Kd.R_lt (by (with_reducible repeat (first|apply Kd.R_alloc|apply Kd.R_drewN|apply Kd.R_drew));exact HO_516001.out))) (Kd.R_lt (by (with_reducible repeat (first|apply Kd.R_alloc|apply Kd.R_drewN|apply Kd.R_drew));exact HO_524001.out))) (below_size (by repeat (first|(with_reducible first|exact HB.out|apply below_alloc|apply pw_below_drewN|apply below_drew1|refine below_set ?_ GE515.out|refine below_set ?_ GE523.out)|exact HB.out))));have n3_:=Aside0.mk (blk_below (g:=gb515) (o:=.cells #[.string t508, .slice Ao11 t509.length co11, .bool t512, .string t513] 24 (0,0)) (by (with_reducible repeat (first|refine blk_drewN ?_ _|refine blk_drew ?_|refine blk_alloc ?_ _));exact BK515.out) hb);have n4_:=Aside0.mk (blk_below (g:=gb523) (o:=.cells #[.string t516, .slice Ao16 t517.length co16, .bool t520, .string t521] 24 (0,0)) (by (with_reducible repeat (first|refine blk_drewN ?_ _|refine blk_drew ?_|refine blk_alloc ?_ _));exact BK523.out) hb);have n5_:=Aside0.mk (below_step (by repeat (first|(with_reducible first|exact HB.out|apply below_alloc|apply pw_below_drewN|apply below_drew1|refine below_set ?_ GE515.out|refine below_set ?_ GE523.out)|exact HB.out)) hb);clear HO_516001;clear HO_524001;clear BK515;clear BK523;clear HB;have HO_516001:=n0_;have HO_524001:=n1_;have HO529:=n2_;have BK515:=n3_;have BK523:=n4_;have HB:=n5_;clear n0_ n1_ n2_ n3_ n4_ n5_;(try clear hb);(try clear hb2);(try clear hk);(try clear hi);(try clear ho0))|((with_reducible refine gate_dst (N:=8) rfl ?_);(try (refine gate_guard (by rfl) ?_;dsimp only));refine box_event ?hg (N:=8) ?hd (cs:=#[.string (⟨#[]⟩:ByteArray), .slice none 0 0, .bool false, .string (⟨#[]⟩:ByteArray)]) (t:=24) ?hr ?_;(case hd=>rfl);(case hg=>rfl);(case hr=>first|(go_simp;done)|(go_simp;rfl));intro gb533 hg w40 hbox hb;have n0_:=Aside0.mk (Kd.R_below (by (with_reducible repeat (first|apply Kd.R_alloc|apply Kd.R_drewN|apply Kd.R_drew));exact HO_516001.out) hb);have n1_:=Aside0.mk (Kd.R_below (by (with_reducible repeat (first|apply Kd.R_alloc|apply Kd.R_drewN|apply Kd.R_drew));exact HO_524001.out) hb);have n2_:=Aside0.mk (Kd.R_below (by (with_reducible repeat (first|apply Kd.R_alloc|apply Kd.R_drewN|apply Kd.R_drew));exact HO529.out) hb);have n3_:=Aside0.mk (blk_below (g:=gb515) (o:=.cells #[.string t508, .slice Ao11 t509.length co11, .bool t512, .string t513] 24 (0,0)) (by (with_reducible repeat (first|refine blk_drewN ?_ _|refine blk_drew ?_|refine blk_alloc ?_ _));exact BK515.out) hb);have n4_:=Aside0.mk (blk_below (g:=gb523) (o:=.cells #[.string t516, .slice Ao16 t517.length co16, .bool t520, .string t521] 24 (0,0)) (by (with_reducible repeat (first|refine blk_drewN ?_ _|refine blk_drew ?_|refine blk_alloc ?_ _));exact BK523.out) hb);have n5_:=Aside0.mk (below_step (by repeat (first|(with_reducible first|exact HB.out|apply below_alloc|apply pw_below_drewN|apply below_drew1|refine below_set ?_ GE515.out|refine below_set ?_ GE523.out)|exact HB.out)) hb);have n6_:=Aside0.mk (hbox);have n7_:=Aside0.mk ((by rw [hg];exact (below_size (by repeat (first|(with_reducible first|exact HB.out|apply below_alloc|apply pw_below_drewN|apply below_drew1|refine below_set ?_ GE515.out|refine below_set ?_ GE523.out)|exact HB.out))):w.heap.size ≤ gb533));have n8_:=n7_;have n9_:=Aside0.mk ((by rw [hg];exact Nat.ne_of_lt (blk_lt (g:=gb515) (o:=.cells #[.string t508, .slice Ao11 t509.length co11, .bool t512, .string t513] 24 (0,0)) (by (with_reducible repeat (first|refine blk_drewN ?_ _|refine blk_drew ?_|refine blk_alloc ?_ _));exact BK515.out)):gb515 ≠ gb533));have n10_:=Aside0.mk ((by rw [hg];exact Nat.ne_of_gt (blk_lt (g:=gb515) (o:=.cells #[.string t508, .slice Ao11 t509.length co11, .bool t512, .string t513] 24 (0,0)) (by (with_reducible repeat (first|refine blk_drewN ?_ _|refine blk_drew ?_|refine blk_alloc ?_ _));exact BK515.out)):gb533 ≠ gb515));have n11_:=Aside0.mk ((by rw [hg];exact Nat.ne_of_lt (blk_lt (g:=gb523) (o:=.cells #[.string t516, .slice Ao16 t517.length co16, .bool t520, .string t521] 24 (0,0)) (by (with_reducible repeat (first|refine blk_drewN ?_ _|refine blk_drew ?_|refine blk_alloc ?_ _));exact BK523.out)):gb523 ≠ gb533));have n12_:=Aside0.mk ((by rw [hg];exact Nat.ne_of_gt (blk_lt (g:=gb523) (o:=.cells #[.string t516, .slice Ao16 t517.length co16, .bool t520, .string t521] 24 (0,0)) (by (with_reducible repeat (first|refine blk_drewN ?_ _|refine blk_drew ?_|refine blk_alloc ?_ _));exact BK523.out)):gb533 ≠ gb523));clear HO_516001;clear HO_524001;clear HO529;clear BK515;clear BK523;clear HB;have HO_516001:=n0_;have HO_524001:=n1_;have HO529:=n2_;have BK515:=n3_;have BK523:=n4_;have HB:=n5_;have BK533:=n6_;have GW533:=n7_;have GE533:=n8_;have NB515_533:=n9_;have NB533_515:=n10_;have NB523_533:=n11_;have NB533_523:=n12_;clear n0_ n1_ n2_ n3_ n4_ n5_ n6_ n7_ n8_ n9_ n10_ n11_ n12_;clear hb hbox hg;have hnb41:=NB533_515.out;have hnc41:=NB515_533.out;have hnb42:=NB533_523.out;have hnc42:=NB523_533.out;have hcz43_0:w40.cell? ⟨gb533,0,none⟩ = some (.string (⟨#[]⟩:ByteArray)):=(blk_cell BK533.out 0).trans rfl;have hcz43_1:w40.cell? ⟨gb533,1,none⟩ = some (.slice none 0 0):=(blk_cell BK533.out 1).trans rfl;have hcz43_2:w40.cell? ⟨gb533,2,none⟩ = some (.bool false):=(blk_cell BK533.out 2).trans rfl;have hcz43_3:w40.cell? ⟨gb533,3,none⟩ = some (.string (⟨#[]⟩:ByteArray)):=(blk_cell BK533.out 3).trans rfl;have hfz43_0:=blk_frozen BK533.out 0;have hfz43_1:=blk_frozen BK533.out 1;have hfz43_2:=blk_frozen BK533.out 2;have hfz43_3:=blk_frozen BK533.out 3;obtain ⟨Ao44,co44,eo44⟩:=Kd.R_slice HO529.out;subst eo44;have hnb45:=NB523_515.out;have hnc45:=NB515_523.out;have hcz46_0:w40.cell? ⟨gb523,0,none⟩ = some (.string t516):=(blk_cell BK523.out 0).trans rfl;have hcz46_1:w40.cell? ⟨gb523,1,none⟩ = some (.slice Ao16 t517.length co16):=(blk_cell BK523.out 1).trans rfl;have hcz46_2:w40.cell? ⟨gb523,2,none⟩ = some (.bool t520):=(blk_cell BK523.out 2).trans rfl;have hcz46_3:w40.cell? ⟨gb523,3,none⟩ = some (.string t521):=(blk_cell BK523.out 3).trans rfl;have hfz46_0:=blk_frozen BK523.out 0;have hfz46_1:=blk_frozen BK523.out 1;have hfz46_2:=blk_frozen BK523.out 2;have hfz46_3:=blk_frozen BK523.out 3)|(go_at_call 16;(with_reducible refine (laws_lpAddr.calls kj5 t526 _ _ t527 t530 t531 t516 _ _ t517 t520 t521 t534 _ ?side1 ?side2 ?side3 ?side4 A38.out).mono ?_);(case side1=>refine (Kd.R_reads' (e:=9) (base:=w.heap.size) (ok:=fun k_=>((True ∧ some k_ ≠ (.slice Ao11 t509.length co11:Value).ownBlock) ∧ some k_ ≠ (.slice Ao16 t517.length co16:Value).ownBlock)) (n:=t527.length) (c:=co44) ?_).2.2;exact (by (with_reducible repeat (first|apply Kd.R_alloc|apply Kd.R_drewN|apply Kd.R_drew));exact (Kd.R_mono (Kd.R_far (p:=⟨gb533,3,none⟩) (Kd.R_far (p:=⟨gb533,2,none⟩) (Kd.R_far (p:=⟨gb533,1,none⟩) (Kd.R_far (p:=⟨gb533,0,none⟩) (Kd.R_types HO529.out BK533.out (by decide)) (fun _ hk=>hk.2) (.string t526)) (fun _ hk=>hk.2) (.slice Ao44 t527.length co44)) (fun _ hk=>hk.2) (.bool t530)) (fun _ hk=>hk.2) (.string t531)) (fun _ h_=>h_.1))));(case side2=>exact (Kd.R_reads' HO529.out).2.1);(case side3=>refine (Kd.R_reads' (e:=9) (base:=w.heap.size) (ok:=fun k_=>(some k_ ≠ (.slice Ao11 t509.length co11:Value).ownBlock ∧ some k_ ≠ (.slice Ao44 t527.length co44:Value).ownBlock)) (n:=t517.length) (c:=co16) ?_).2.2;exact (by (with_reducible repeat (first|apply Kd.R_alloc|apply Kd.R_drewN|apply Kd.R_drew));exact (Kd.R_mono (Kd.R_far (p:=⟨gb533,3,none⟩) (Kd.R_far (p:=⟨gb533,2,none⟩) (Kd.R_far (p:=⟨gb533,1,none⟩) (Kd.R_far (p:=⟨gb533,0,none⟩) (Kd.R_types HO_524001.out BK533.out (by decide)) (fun _ hk=>hk.2) (.string t526)) (fun _ hk=>hk.2) (.slice Ao44 t527.length co44)) (fun _ hk=>hk.2) (.bool t530)) (fun _ hk=>hk.2) (.string t531)) (fun _ h_=>h_.1))));(case side4=>exact (Kd.R_reads' HO_524001.out).2.1);rintro e w47 ⟨rfl,hb⟩;have n0_:=Aside0.mk (Kd.R_below (by (with_reducible repeat (first|apply Kd.R_alloc|apply Kd.R_drewN|apply Kd.R_drew));exact (Kd.R_mono (Kd.R_far (p:=⟨gb533,3,none⟩) (Kd.R_far (p:=⟨gb533,2,none⟩) (Kd.R_far (p:=⟨gb533,1,none⟩) (Kd.R_far (p:=⟨gb533,0,none⟩) (Kd.R_types HO_516001.out BK533.out (by decide)) (fun _ hk=>hk.2) (.string t526)) (fun _ hk=>hk.2) (.slice Ao44 t527.length co44)) (fun _ hk=>hk.2) (.bool t530)) (fun _ hk=>hk.2) (.string t531)) (fun _ h_=>h_.1))) hb);have n1_:=Aside0.mk (Kd.R_below (by (with_reducible repeat (first|apply Kd.R_alloc|apply Kd.R_drewN|apply Kd.R_drew));exact (Kd.R_mono (Kd.R_far (p:=⟨gb533,3,none⟩) (Kd.R_far (p:=⟨gb533,2,none⟩) (Kd.R_far (p:=⟨gb533,1,none⟩) (Kd.R_far (p:=⟨gb533,0,none⟩) (Kd.R_types HO_524001.out BK533.out (by decide)) (fun _ hk=>hk.2) (.string t526)) (fun _ hk=>hk.2) (.slice Ao44 t527.length co44)) (fun _ hk=>hk.2) (.bool t530)) (fun _ hk=>hk.2) (.string t531)) (fun _ h_=>h_.1))) hb);have n2_:=Aside0.mk (Kd.R_below (by (with_reducible repeat (first|apply Kd.R_alloc|apply Kd.R_drewN|apply Kd.R_drew));exact (Kd.R_mono (Kd.R_far (p:=⟨gb533,3,none⟩) (Kd.R_far (p:=⟨gb533,2,none⟩) (Kd.R_far (p:=⟨gb533,1,none⟩) (Kd.R_far (p:=⟨gb533,0,none⟩) (Kd.R_types HO529.out BK533.out (by decide)) (fun _ hk=>hk.2) (.string t526)) (fun _ hk=>hk.2) (.slice Ao44 t527.length co44)) (fun _ hk=>hk.2) (.bool t530)) (fun _ hk=>hk.2) (.string t531)) (fun _ h_=>h_.1))) hb);have n3_:=Aside0.mk (blk_below (g:=gb515) (o:=.cells #[.string t508, .slice Ao11 t509.length co11, .bool t512, .string t513] 24 (0,0)) (by (with_reducible repeat (first|refine blk_drewN ?_ _|refine blk_drew ?_|refine blk_alloc ?_ _));refine blk_far ?_ NB515_533.out _;(with_reducible repeat (first|refine blk_drewN ?_ _|refine blk_drew ?_|refine blk_alloc ?_ _));refine blk_far ?_ NB515_533.out _;(with_reducible repeat (first|refine blk_drewN ?_ _|refine blk_drew ?_|refine blk_alloc ?_ _));refine blk_far ?_ NB515_533.out _;(with_reducible repeat (first|refine blk_drewN ?_ _|refine blk_drew ?_|refine blk_alloc ?_ _));refine blk_far ?_ NB515_533.out _;(with_reducible repeat (first|refine blk_drewN ?_ _|refine blk_drew ?_|refine blk_alloc ?_ _));exact BK515.out) hb);have n4_:=Aside0.mk (blk_below (g:=gb523) (o:=.cells #[.string t516, .slice Ao16 t517.length co16, .bool t520, .string t521] 24 (0,0)) (by (with_reducible repeat (first|refine blk_drewN ?_ _|refine blk_drew ?_|refine blk_alloc ?_ _));refine blk_far ?_ NB523_533.out _;(with_reducible repeat (first|refine blk_drewN ?_ _|refine blk_drew ?_|refine blk_alloc ?_ _));refine blk_far ?_ NB523_533.out _;(with_reducible repeat (first|refine blk_drewN ?_ _|refine blk_drew ?_|refine blk_alloc ?_ _));refine blk_far ?_ NB523_533.out _;(with_reducible repeat (first|refine blk_drewN ?_ _|refine blk_drew ?_|refine blk_alloc ?_ _));refine blk_far ?_ NB523_533.out _;(with_reducible repeat (first|refine blk_drewN ?_ _|refine blk_drew ?_|refine blk_alloc ?_ _));exact BK523.out) hb);have n5_:=Aside0.mk (blk_below (g:=gb533) (o:=.cells #[.string t526, .slice Ao44 t527.length co44, .bool t530, .string t531] 24 (0,0)) (by (with_reducible repeat (first|refine blk_drewN ?_ _|refine blk_drew ?_|refine blk_alloc ?_ _));refine blk_put (cs:=#[.string t526, .slice Ao44 t527.length co44, .bool t530, .string (⟨#[]⟩:ByteArray)]) ?_ 3 _ rfl;(with_reducible repeat (first|refine blk_drewN ?_ _|refine blk_drew ?_|refine blk_alloc ?_ _));refine blk_put (cs:=#[.string t526, .slice Ao44 t527.length co44, .bool false, .string (⟨#[]⟩:ByteArray)]) ?_ 2 _ rfl;(with_reducible repeat (first|refine blk_drewN ?_ _|refine blk_drew ?_|refine blk_alloc ?_ _));refine blk_put (cs:=#[.string t526, .slice none 0 0, .bool false, .string (⟨#[]⟩:ByteArray)]) ?_ 1 _ rfl;(with_reducible repeat (first|refine blk_drewN ?_ _|refine blk_drew ?_|refine blk_alloc ?_ _));refine blk_put (cs:=#[.string (⟨#[]⟩:ByteArray), .slice none 0 0, .bool false, .string (⟨#[]⟩:ByteArray)]) ?_ 0 _ rfl;(with_reducible repeat (first|refine blk_drewN ?_ _|refine blk_drew ?_|refine blk_alloc ?_ _));exact BK533.out) hb);have n6_:=Aside0.mk (below_step (by repeat (first|(with_reducible first|exact HB.out|apply below_alloc|apply pw_below_drewN|apply below_drew1|refine below_set ?_ GE515.out|refine below_set ?_ GE523.out|refine below_set ?_ GE533.out)|exact HB.out)) hb);clear HO_516001;clear HO_524001;clear HO529;clear BK515;clear BK523;clear BK533;clear HB;have HO_516001:=n0_;have HO_524001:=n1_;have HO529:=n2_;have BK515:=n3_;have BK523:=n4_;have BK533:=n5_;have HB:=n6_;clear n0_ n1_ n2_ n3_ n4_ n5_ n6_;(try clear hb);(try clear hb2);(try clear hk);(try clear hi)))
       go_ret
       exact ⟨by first|rfl|(simp <;> rfl)|(simp [*] <;> rfl),by repeat (first|(with_reducible first|exact HB.out|apply below_alloc|apply pw_below_drewN|apply below_drew1|refine below_set ?_ GE515.out|refine below_set ?_ GE523.out|refine below_set ?_ GE533.out)|exact HB.out)⟩
      ·rw [if_neg c37] at H
       have c37b0:(t532 == t522) = false:=by simpa using c37
       (try (have c37b1:decide (t532 = t522) = false:=by simpa using c37))
       (try (have c37b2:(t532 == t522) = false:=by simpa using c37))
       (try (have c37b3:¬ (t532 = t522):=by simpa using c37))
       clear c37
       obtain rfl:=Option.some.inj H
       go_wp2_with (first|((with_reducible refine gate_callee (f:=9) rfl ?_);refine goesL_ (some 51) rfl rfl Tryd.func9 (by kernel_rfl) rfl #[.string (t507 ++ (⟨#[35,120]⟩:ByteArray))] rfl (by (try simp only [List.map_toArray,List.map_cons,List.map_nil]);first|done|rfl|(simp only [List.length_drop,List.length_take];rfl)) ?_;(with_reducible refine (impl_AddrRead.calls kj5 (t507 ++ (⟨#[35,120]⟩:ByteArray)) t526 t527 t530 t531 t532 _ A36.out).mono ?_);rintro e w48 ⟨v528,rfl,ho0,hb⟩;refine ⟨_,rfl,?_⟩;have n0_:=Aside0.mk (Kd.R_elder' (by (with_reducible repeat (first|apply Kd.R_alloc|apply Kd.R_drewN|apply Kd.R_drew));exact HO_516001.out) (Kd.R_base ho0) hb);have n1_:=Aside0.mk (Kd.R_elder' (by (with_reducible repeat (first|apply Kd.R_alloc|apply Kd.R_drewN|apply Kd.R_drew));exact HO_524001.out) (Kd.R_base ho0) hb);have n2_:=Aside0.mk (Kd.R_lower (Kd.R_new' (Kd.R_new' ho0 (Kd.R_lt (by (with_reducible repeat (first|apply Kd.R_alloc|apply Kd.R_drewN|apply Kd.R_drew));exact HO_516001.out))) (Kd.R_lt (by (with_reducible repeat (first|apply Kd.R_alloc|apply Kd.R_drewN|apply Kd.R_drew));exact HO_524001.out))) (below_size (by repeat (first|(with_reducible first|exact HB.out|apply below_alloc|apply pw_below_drewN|apply below_drew1|refine below_set ?_ GE515.out|refine below_set ?_ GE523.out)|exact HB.out))));have n3_:=Aside0.mk (blk_below (g:=gb515) (o:=.cells #[.string t508, .slice Ao11 t509.length co11, .bool t512, .string t513] 24 (0,0)) (by (with_reducible repeat (first|refine blk_drewN ?_ _|refine blk_drew ?_|refine blk_alloc ?_ _));exact BK515.out) hb);have n4_:=Aside0.mk (blk_below (g:=gb523) (o:=.cells #[.string t516, .slice Ao16 t517.length co16, .bool t520, .string t521] 24 (0,0)) (by (with_reducible repeat (first|refine blk_drewN ?_ _|refine blk_drew ?_|refine blk_alloc ?_ _));exact BK523.out) hb);have n5_:=Aside0.mk (below_step (by repeat (first|(with_reducible first|exact HB.out|apply below_alloc|apply pw_below_drewN|apply below_drew1|refine below_set ?_ GE515.out|refine below_set ?_ GE523.out)|exact HB.out)) hb);clear HO_516001;clear HO_524001;clear BK515;clear BK523;clear HB;have HO_516001:=n0_;have HO_524001:=n1_;have HO529:=n2_;have BK515:=n3_;have BK523:=n4_;have HB:=n5_;clear n0_ n1_ n2_ n3_ n4_ n5_;(try clear hb);(try clear hb2);(try clear hk);(try clear hi);(try clear ho0))|((with_reducible refine gate_dst (N:=8) rfl ?_);(try (refine gate_guard (by rfl) ?_;dsimp only));refine box_event ?hg (N:=8) ?hd (cs:=#[.string (⟨#[]⟩:ByteArray), .slice none 0 0, .bool false, .string (⟨#[]⟩:ByteArray)]) (t:=24) ?hr ?_;(case hd=>rfl);(case hg=>rfl);(case hr=>first|(go_simp;done)|(go_simp;rfl));intro gb533 hg w49 hbox hb;have n0_:=Aside0.mk (Kd.R_below (by (with_reducible repeat (first|apply Kd.R_alloc|apply Kd.R_drewN|apply Kd.R_drew));exact HO_516001.out) hb);have n1_:=Aside0.mk (Kd.R_below (by (with_reducible repeat (first|apply Kd.R_alloc|apply Kd.R_drewN|apply Kd.R_drew));exact HO_524001.out) hb);have n2_:=Aside0.mk (Kd.R_below (by (with_reducible repeat (first|apply Kd.R_alloc|apply Kd.R_drewN|apply Kd.R_drew));exact HO529.out) hb);have n3_:=Aside0.mk (blk_below (g:=gb515) (o:=.cells #[.string t508, .slice Ao11 t509.length co11, .bool t512, .string t513] 24 (0,0)) (by (with_reducible repeat (first|refine blk_drewN ?_ _|refine blk_drew ?_|refine blk_alloc ?_ _));exact BK515.out) hb);have n4_:=Aside0.mk (blk_below (g:=gb523) (o:=.cells #[.string t516, .slice Ao16 t517.length co16, .bool t520, .string t521] 24 (0,0)) (by (with_reducible repeat (first|refine blk_drewN ?_ _|refine blk_drew ?_|refine blk_alloc ?_ _));exact BK523.out) hb);have n5_:=Aside0.mk (below_step (by repeat (first|(with_reducible first|exact HB.out|apply below_alloc|apply pw_below_drewN|apply below_drew1|refine below_set ?_ GE515.out|refine below_set ?_ GE523.out)|exact HB.out)) hb);have n6_:=Aside0.mk (hbox);have n7_:=Aside0.mk ((by rw [hg];exact (below_size (by repeat (first|(with_reducible first|exact HB.out|apply below_alloc|apply pw_below_drewN|apply below_drew1|refine below_set ?_ GE515.out|refine below_set ?_ GE523.out)|exact HB.out))):w.heap.size ≤ gb533));have n8_:=n7_;have n9_:=Aside0.mk ((by rw [hg];exact Nat.ne_of_lt (blk_lt (g:=gb515) (o:=.cells #[.string t508, .slice Ao11 t509.length co11, .bool t512, .string t513] 24 (0,0)) (by (with_reducible repeat (first|refine blk_drewN ?_ _|refine blk_drew ?_|refine blk_alloc ?_ _));exact BK515.out)):gb515 ≠ gb533));have n10_:=Aside0.mk ((by rw [hg];exact Nat.ne_of_gt (blk_lt (g:=gb515) (o:=.cells #[.string t508, .slice Ao11 t509.length co11, .bool t512, .string t513] 24 (0,0)) (by (with_reducible repeat (first|refine blk_drewN ?_ _|refine blk_drew ?_|refine blk_alloc ?_ _));exact BK515.out)):gb533 ≠ gb515));have n11_:=Aside0.mk ((by rw [hg];exact Nat.ne_of_lt (blk_lt (g:=gb523) (o:=.cells #[.string t516, .slice Ao16 t517.length co16, .bool t520, .string t521] 24 (0,0)) (by (with_reducible repeat (first|refine blk_drewN ?_ _|refine blk_drew ?_|refine blk_alloc ?_ _));exact BK523.out)):gb523 ≠ gb533));have n12_:=Aside0.mk ((by rw [hg];exact Nat.ne_of_gt (blk_lt (g:=gb523) (o:=.cells #[.string t516, .slice Ao16 t517.length co16, .bool t520, .string t521] 24 (0,0)) (by (with_reducible repeat (first|refine blk_drewN ?_ _|refine blk_drew ?_|refine blk_alloc ?_ _));exact BK523.out)):gb533 ≠ gb523));clear HO_516001;clear HO_524001;clear HO529;clear BK515;clear BK523;clear HB;have HO_516001:=n0_;have HO_524001:=n1_;have HO529:=n2_;have BK515:=n3_;have BK523:=n4_;have HB:=n5_;have BK533:=n6_;have GW533:=n7_;have GE533:=n8_;have NB515_533:=n9_;have NB533_515:=n10_;have NB523_533:=n11_;have NB533_523:=n12_;clear n0_ n1_ n2_ n3_ n4_ n5_ n6_ n7_ n8_ n9_ n10_ n11_ n12_;clear hb hbox hg;have hnb50:=NB533_515.out;have hnc50:=NB515_533.out;have hnb51:=NB533_523.out;have hnc51:=NB523_533.out;have hcz52_0:w49.cell? ⟨gb533,0,none⟩ = some (.string (⟨#[]⟩:ByteArray)):=(blk_cell BK533.out 0).trans rfl;have hcz52_1:w49.cell? ⟨gb533,1,none⟩ = some (.slice none 0 0):=(blk_cell BK533.out 1).trans rfl;have hcz52_2:w49.cell? ⟨gb533,2,none⟩ = some (.bool false):=(blk_cell BK533.out 2).trans rfl;have hcz52_3:w49.cell? ⟨gb533,3,none⟩ = some (.string (⟨#[]⟩:ByteArray)):=(blk_cell BK533.out 3).trans rfl;have hfz52_0:=blk_frozen BK533.out 0;have hfz52_1:=blk_frozen BK533.out 1;have hfz52_2:=blk_frozen BK533.out 2;have hfz52_3:=blk_frozen BK533.out 3;obtain ⟨Ao53,co53,eo53⟩:=Kd.R_slice HO529.out;subst eo53))
       go_ret
       exact ⟨by first|rfl|(simp <;> rfl)|(simp [*] <;> rfl),by repeat (first|(with_reducible first|exact HB.out|apply below_alloc|apply pw_below_drewN|apply below_drew1|refine below_set ?_ GE515.out|refine below_set ?_ GE523.out|refine below_set ?_ GE533.out)|exact HB.out)⟩
     ·rw [if_neg c35] at H
      exact absurd H (by simp)

/-- THE ONE PURE STATEMENT of laws_FnAddrCross: yours. -/
def laws_FnAddrCross.Pure:Prop:=∀ (l0:List Int),l0.length ≤ maxLen → l0.length * 1 ≤ 140737488351232 → (∀ x ∈ l0,(Lit.int .u8 x).wf = true) → ∃ k,laws_FnAddrCross.f k l0 = some true
end Go.Proofs.YtochmlkladpfgaaDoor.P
