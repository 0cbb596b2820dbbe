-- Written by a program of this session (patch_print.py over the kit's print; given texts in wip/given).
-- Cut down by a program of this session (wip/tools/prune.py) to what its claim can name.
import Derived.Test.YtochmlkladpfgaaDoorPx0
import Derived.Test.YtochmlkladpfgaaDoorPx7
import Derived.Test.YtochmlkladpfgaaDoorPx13
import Derived.Test.YtochmlkladpfgaaDoorPx22
namespace Go.Proofs.YtochmlkladpfgaaDoor.P
open Go.RowKit Go.Proofs.YtochmlkladpfgaaDoorW.PrintWords Go.Proofs.YtochmlkladpfgaaDoorW.PrintLast Go.Proofs.YtochmlkladpfgaaDoorW.PrintMore
attribute [local go_sem] max2_int min2_int max_two min_two max_three min_three max_four min_four   -- for this text's walks alone
set_option linter.unusedVariables false
set_option linter.unusedSimpArgs false
set_option maxHeartbeats 8000000
set_option maxRecDepth 100000

mutual
def laws_FnExactAddrRead.j0:Nat → ByteArray → Bool → Bool → ByteArray → List ByteArray → Bool → ByteArray → ByteArray → List ByteArray → Bool → ByteArray → Option (Bool)
 | 0,_,_,_,_,_,_,_,_,_,_,_=>none
 | k + 1,x0,x4,x32,x609000,x609001,x609002,x609003,x617000,x617001,x617002,x617003=>if x32 = true then (some false) else ((laws_markAddr.f k x617000 x617001 x617002 x617003 1).bind fun bt618=>((laws_heldAddr.f k x617000 bt618.2 x617002 x617003 1).bind fun t620=>(if t620 < 0 then (some false) else (if t620 = bt618.1 then ((impl_AddrRead.f k x0).bind fun bt621=>((laws_eqAddr.f k bt621.1 bt621.2.1 bt621.2.2.1 bt621.2.2.2.1 x609000 x609001 x609002 x609003).bind fun t629=>(if t629 = true then (laws_FnExactAddrRead.j1 k bt618.1 (bt621.2.2.2.2 != x4) x617000 bt618.2 x617002 x617003) else (laws_FnExactAddrRead.j1 k bt618.1 true x617000 bt618.2 x617002 x617003)))) else (some false)))))
def laws_FnExactAddrRead.j1:Nat → Int → Bool → ByteArray → List ByteArray → Bool → ByteArray → Option (Bool)
 | 0,_,_,_,_,_,_=>none
 | k + 1,x7,x57,x617000,x617001,x617002,x617003=>if x57 = true then (some false) else ((laws_heldAddr.f k x617000 x617001 x617002 x617003 1).bind fun t630=>(if t630 < 0 then (some false) else (if t630 = x7 then (some true) else (some false))))
end
def laws_FnExactAddrRead.f (k:Nat) (a0:ByteArray):Option (Bool):=if (a0.size:Int) > 1048576 then (some true) else ((spec_AddrRead.f k a0).bind fun bt601=>((impl_AddrRead.f k a0).bind fun bt609=>((laws_eqAddr.f k bt609.1 bt609.2.1 bt609.2.2.1 bt609.2.2.2.1 bt601.1 bt601.2.1 bt601.2.2.1 bt601.2.2.2.1).bind fun t617=>(if t617 = true then (laws_FnExactAddrRead.j0 k a0 bt601.2.2.2.2 (bt609.2.2.2.2 != bt601.2.2.2.2) bt601.1 bt601.2.1 bt601.2.2.1 bt601.2.2.2.1 bt609.1 bt609.2.1 bt609.2.2.1 bt609.2.2.2.1) else (laws_FnExactAddrRead.j0 k a0 bt601.2.2.2.2 true bt601.1 bt601.2.1 bt601.2.2.1 bt601.2.2.2.1 bt609.1 bt609.2.1 bt609.2.2.1 bt609.2.2.2.1)))))
theorem laws_FnExactAddrRead.mono_l:∀ k,(∀ y0 y1 y2 y3 y4 y5 y6 y7 y8 y9 y10,LeO (laws_FnExactAddrRead.j0 k y0 y1 y2 y3 y4 y5 y6 y7 y8 y9 y10) (laws_FnExactAddrRead.j0 (k + 1) y0 y1 y2 y3 y4 y5 y6 y7 y8 y9 y10)) ∧ (∀ y0 y1 y2 y3 y4 y5,LeO (laws_FnExactAddrRead.j1 k y0 y1 y2 y3 y4 y5) (laws_FnExactAddrRead.j1 (k + 1) y0 y1 y2 y3 y4 y5))
 | 0=>⟨fun _ _ _ _ _ _ _ _ _ _ _ r h=>by simp [laws_FnExactAddrRead.j0] at h,fun _ _ _ _ _ _ r h=>by simp [laws_FnExactAddrRead.j1] at h⟩
 | k + 1=>by
  obtain ⟨ih0,ih1⟩:=laws_FnExactAddrRead.mono_l k
  refine ⟨?_,?_⟩
  ·intro y0 y1 y2 y3 y4 y5 y6 y7 y8 y9 y10
   unfold laws_FnExactAddrRead.j0
   repeat' first
   | (with_reducible exact ih0 _ _ _ _ _ _ _ _ _ _ _)
   | (with_reducible exact ih1 _ _ _ _ _ _)
   | (with_reducible exact impl_AddrRead.mono _ _)
   | (with_reducible exact laws_eqAddr.mono _ _ _ _ _ _ _ _ _)
   | (with_reducible exact laws_heldAddr.mono _ _ _ _ _ _)
   | (with_reducible exact laws_markAddr.mono _ _ _ _ _ _)
   | (with_reducible exact spec_AddrRead.mono _ _)
   | (with_reducible exact LeO.refl _)
   | (with_reducible exact LeO.none _)
   | (with_reducible refine LeO.ite ?_ ?_)
   | (with_reducible refine LeO.bind ?_ (fun _=>?_))
   | exact ih0 _ _ _ _ _ _ _ _ _ _ _
   | exact ih1 _ _ _ _ _ _
   | exact impl_AddrRead.mono _ _
   | exact laws_eqAddr.mono _ _ _ _ _ _ _ _ _
   | exact laws_heldAddr.mono _ _ _ _ _ _
   | exact laws_markAddr.mono _ _ _ _ _ _
   | exact spec_AddrRead.mono _ _
   | exact LeO.none _
   | refine LeO.ite ?_ ?_
   | refine LeO.bind ?_ (fun _=>?_)
  ·intro y0 y1 y2 y3 y4 y5
   unfold laws_FnExactAddrRead.j1
   repeat' first
   | (with_reducible exact ih0 _ _ _ _ _ _ _ _ _ _ _)
   | (with_reducible exact ih1 _ _ _ _ _ _)
   | (with_reducible exact impl_AddrRead.mono _ _)
   | (with_reducible exact laws_eqAddr.mono _ _ _ _ _ _ _ _ _)
   | (with_reducible exact laws_heldAddr.mono _ _ _ _ _ _)
   | (with_reducible exact laws_markAddr.mono _ _ _ _ _ _)
   | (with_reducible exact spec_AddrRead.mono _ _)
   | (with_reducible exact LeO.refl _)
   | (with_reducible exact LeO.none _)
   | (with_reducible refine LeO.ite ?_ ?_)
   | (with_reducible refine LeO.bind ?_ (fun _=>?_))
   | exact ih0 _ _ _ _ _ _ _ _ _ _ _
   | exact ih1 _ _ _ _ _ _
   | exact impl_AddrRead.mono _ _
   | exact laws_eqAddr.mono _ _ _ _ _ _ _ _ _
   | exact laws_heldAddr.mono _ _ _ _ _ _
   | exact laws_markAddr.mono _ _ _ _ _ _
   | exact spec_AddrRead.mono _ _
   | exact LeO.none _
   | refine LeO.ite ?_ ?_
   | refine LeO.bind ?_ (fun _=>?_)
theorem laws_FnExactAddrRead.mono:∀ a0 k,LeO (laws_FnExactAddrRead.f k a0) (laws_FnExactAddrRead.f (k + 1) a0):=by
 intro a0 k
 obtain ⟨ih0,ih1⟩:=laws_FnExactAddrRead.mono_l k
 unfold laws_FnExactAddrRead.f
 repeat' first
   | (with_reducible exact ih0 _ _ _ _ _ _ _ _ _ _ _)
   | (with_reducible exact ih1 _ _ _ _ _ _)
   | (with_reducible exact impl_AddrRead.mono _ _)
   | (with_reducible exact laws_eqAddr.mono _ _ _ _ _ _ _ _ _)
   | (with_reducible exact laws_heldAddr.mono _ _ _ _ _ _)
   | (with_reducible exact laws_markAddr.mono _ _ _ _ _ _)
   | (with_reducible exact spec_AddrRead.mono _ _)
   | (with_reducible exact LeO.refl _)
   | (with_reducible exact LeO.none _)
   | (with_reducible refine LeO.ite ?_ ?_)
   | (with_reducible refine LeO.bind ?_ (fun _=>?_))
   | exact ih0 _ _ _ _ _ _ _ _ _ _ _
   | exact ih1 _ _ _ _ _ _
   | exact impl_AddrRead.mono _ _
   | exact laws_eqAddr.mono _ _ _ _ _ _ _ _ _
   | exact laws_heldAddr.mono _ _ _ _ _ _
   | exact laws_markAddr.mono _ _ _ _ _ _
   | exact spec_AddrRead.mono _ _
   | exact LeO.none _
   | refine LeO.ite ?_ ?_
   | refine LeO.bind ?_ (fun _=>?_)
theorem laws_FnExactAddrRead.calls (k:Nat) (a0:ByteArray) (r:Bool) (w:World) (h:laws_FnExactAddrRead.f k a0 = some r) :
  Calls Tryd.prog 3 #[.string a0] w fun e w'=>e = .returned (.bool r) ∧ Below w.heap.size w w':=by
 have hu24:=Tryd.underlying24
 have HB:=Aside0.mk (Below.refl w.heap.size w)
 have H:(if (a0.size:Int) > 1048576 then (some true) else ((spec_AddrRead.f k a0).bind fun bt601=>((impl_AddrRead.f k a0).bind fun bt609=>((laws_eqAddr.f k bt609.1 bt609.2.1 bt609.2.2.1 bt609.2.2.2.1 bt601.1 bt601.2.1 bt601.2.2.1 bt601.2.2.2.1).bind fun t617=>(if t617 = true then (laws_FnExactAddrRead.j0 k a0 bt601.2.2.2.2 (bt609.2.2.2.2 != bt601.2.2.2.2) bt601.1 bt601.2.1 bt601.2.2.1 bt601.2.2.2.1 bt609.1 bt609.2.1 bt609.2.2.1 bt609.2.2.2.1) else (laws_FnExactAddrRead.j0 k a0 bt601.2.2.2.2 true bt601.1 bt601.2.1 bt601.2.2.1 bt601.2.2.2.1 bt609.1 bt609.2.1 bt609.2.2.1 bt609.2.2.2.1)))))) = some r:=h
 clear h
 by_cases c2:(a0.size:Int) > 1048576
 ·rw [if_pos c2] at H
  have c2b0:decide (1048576 < (a0.size:Int)) = true:=decide_eq_true c2
  have c2b1:decide (1048576 < a0.size) = true:=decide_eq_true (by omega)
  clear c2
  obtain rfl:=Option.some.inj H
  go_enter Tryd.func3,Tryd.ntmps3
  go_wp2
  go_ret
  exact ⟨by first|rfl|(simp <;> rfl)|(simp [*] <;> rfl),by repeat (first|(with_reducible first|exact HB.out|apply below_alloc|apply pw_below_drewN|apply below_drew1)|exact HB.out)⟩
 ·rw [if_neg c2] at H
  have c2b0:decide (1048576 < (a0.size:Int)) = false:=decide_eq_false c2
  have c2b1:decide (1048576 < a0.size) = false:=decide_eq_false (by omega)
  clear c2
  replace H:=Option.bind_eq_some_iff.mp H
  obtain ⟨⟨t601,t602,t605,t606,t607⟩,A30,H⟩:=H
  replace H:((impl_AddrRead.f k a0).bind fun bt609=>((laws_eqAddr.f k bt609.1 bt609.2.1 bt609.2.2.1 bt609.2.2.2.1 t601 t602 t605 t606).bind fun t617=>(if t617 = true then (laws_FnExactAddrRead.j0 k a0 t607 (bt609.2.2.2.2 != t607) t601 t602 t605 t606 bt609.1 bt609.2.1 bt609.2.2.1 bt609.2.2.2.1) else (laws_FnExactAddrRead.j0 k a0 t607 true t601 t602 t605 t606 bt609.1 bt609.2.1 bt609.2.2.1 bt609.2.2.2.1)))) = some r:=H
  have A3:=Aside0.mk A30
  clear A30
  replace H:=Option.bind_eq_some_iff.mp H
  obtain ⟨⟨t609,t610,t613,t614,t615⟩,A40,H⟩:=H
  replace H:((laws_eqAddr.f k t609 t610 t613 t614 t601 t602 t605 t606).bind fun t617=>(if t617 = true then (laws_FnExactAddrRead.j0 k a0 t607 (t615 != t607) t601 t602 t605 t606 t609 t610 t613 t614) else (laws_FnExactAddrRead.j0 k a0 t607 true t601 t602 t605 t606 t609 t610 t613 t614))) = some r:=H
  have A4:=Aside0.mk A40
  clear A40
  have HC5:=Aside0.mk H
  clear H
  go_enter Tryd.func3,Tryd.ntmps3
  go_upto_region 5 with (first|((with_reducible refine gate_callee (f:=8) rfl ?_);refine goesL_ (some 16) rfl rfl Tryd.func8 (by kernel_rfl) rfl #[.string a0] rfl (by (try simp only [List.map_toArray,List.map_cons,List.map_nil]);first|done|rfl|(simp only [List.length_drop,List.length_take];rfl)) ?_;(with_reducible refine (spec_AddrRead.calls k a0 t601 t602 t605 t606 t607 _ A3.out).mono ?_);rintro e w6 ⟨v603,rfl,ho0,hb⟩;refine ⟨_,rfl,?_⟩;have n0_:=Aside0.mk (Kd.R_lower ho0 (below_size (by repeat (first|(with_reducible first|exact HB.out|apply below_alloc|apply pw_below_drewN|apply below_drew1)|exact HB.out))));have n1_:=Aside0.mk (below_step (by repeat (first|(with_reducible first|exact HB.out|apply below_alloc|apply pw_below_drewN|apply below_drew1)|exact HB.out)) hb);clear HB;have HO604:=n0_;have HB:=n1_;clear n0_ n1_;(try clear hb);(try clear hb2);(try clear hk);(try clear hi);(try clear ho0))|((with_reducible refine gate_dst (N:=3) rfl ?_);refine box_event ?hg (N:=3) ?hd (cs:=#[.string (⟨#[]⟩:ByteArray), .slice none 0 0, .bool false, .string (⟨#[]⟩:ByteArray)]) (t:=24) ?hr ?_;(case hd=>rfl);(case hg=>rfl);(case hr=>first|(go_simp;done)|(go_simp;rfl));intro gb608 hg w7 hbox hb;have n0_:=Aside0.mk (Kd.R_below (by (with_reducible repeat (first|apply Kd.R_alloc|apply Kd.R_drewN|apply Kd.R_drew));exact HO604.out) hb);have n1_:=Aside0.mk (below_step (by repeat (first|(with_reducible first|exact HB.out|apply below_alloc|apply pw_below_drewN|apply below_drew1)|exact HB.out)) hb);have n2_:=Aside0.mk (hbox);have n3_:=Aside0.mk ((by rw [hg];exact (below_size (by repeat (first|(with_reducible first|exact HB.out|apply below_alloc|apply pw_below_drewN|apply below_drew1)|exact HB.out))):w.heap.size ≤ gb608));have n4_:=n3_;clear HO604;clear HB;have HO604:=n0_;have HB:=n1_;have BK608:=n2_;have GW608:=n3_;have GE608:=n4_;clear n0_ n1_ n2_ n3_ n4_;clear hb hbox hg;have hcz8_0:w7.cell? ⟨gb608,0,none⟩ = some (.string (⟨#[]⟩:ByteArray)):=(blk_cell BK608.out 0).trans rfl;have hcz8_1:w7.cell? ⟨gb608,1,none⟩ = some (.slice none 0 0):=(blk_cell BK608.out 1).trans rfl;have hcz8_2:w7.cell? ⟨gb608,2,none⟩ = some (.bool false):=(blk_cell BK608.out 2).trans rfl;have hcz8_3:w7.cell? ⟨gb608,3,none⟩ = some (.string (⟨#[]⟩:ByteArray)):=(blk_cell BK608.out 3).trans rfl;have hfz8_0:=blk_frozen BK608.out 0;have hfz8_1:=blk_frozen BK608.out 1;have hfz8_2:=blk_frozen BK608.out 2;have hfz8_3:=blk_frozen BK608.out 3;obtain ⟨Ao9,co9,eo9⟩:=Kd.R_slice HO604.out;subst eo9)|((with_reducible refine gate_callee (f:=9) rfl ?_);refine goesL_ (some 21) rfl rfl Tryd.func9 (by kernel_rfl) rfl #[.string a0] rfl (by (try simp only [List.map_toArray,List.map_cons,List.map_nil]);first|done|rfl|(simp only [List.length_drop,List.length_take];rfl)) ?_;(with_reducible refine (impl_AddrRead.calls k a0 t609 t610 t613 t614 t615 _ A4.out).mono ?_);rintro e w10 ⟨v611,rfl,ho0,hb⟩;refine ⟨_,rfl,?_⟩;have n0_:=Aside0.mk (Kd.R_elder' (by (with_reducible repeat (first|apply Kd.R_alloc|apply Kd.R_drewN|apply Kd.R_drew));exact (Kd.R_mono (Kd.R_far (p:=⟨gb608,3,none⟩) (Kd.R_far (p:=⟨gb608,2,none⟩) (Kd.R_far (p:=⟨gb608,1,none⟩) (Kd.R_far (p:=⟨gb608,0,none⟩) (Kd.R_types HO604.out BK608.out (by decide)) (fun _ hk=>hk.2) (.string t601)) (fun _ hk=>hk.2) (.slice Ao9 t602.length co9)) (fun _ hk=>hk.2) (.bool t605)) (fun _ hk=>hk.2) (.string t606)) (fun _ h_=>h_.1))) (Kd.R_base ho0) hb);have n1_:=Aside0.mk (Kd.R_lower (Kd.R_new' ho0 (Kd.R_lt (by (with_reducible repeat (first|apply Kd.R_alloc|apply Kd.R_drewN|apply Kd.R_drew));exact (Kd.R_mono (Kd.R_far (p:=⟨gb608,3,none⟩) (Kd.R_far (p:=⟨gb608,2,none⟩) (Kd.R_far (p:=⟨gb608,1,none⟩) (Kd.R_far (p:=⟨gb608,0,none⟩) (Kd.R_types HO604.out BK608.out (by decide)) (fun _ hk=>hk.2) (.string t601)) (fun _ hk=>hk.2) (.slice Ao9 t602.length co9)) (fun _ hk=>hk.2) (.bool t605)) (fun _ hk=>hk.2) (.string t606)) (fun _ h_=>h_.1))))) (below_size (by repeat (first|(with_reducible first|exact HB.out|apply below_alloc|apply pw_below_drewN|apply below_drew1|refine below_set ?_ GE608.out)|exact HB.out))));have n2_:=Aside0.mk (blk_below (g:=gb608) (o:=.cells #[.string t601, .slice Ao9 t602.length co9, .bool t605, .string t606] 24 (0,0)) (by (with_reducible repeat (first|refine blk_drewN ?_ _|refine blk_drew ?_|refine blk_alloc ?_ _));refine blk_put (cs:=#[.string t601, .slice Ao9 t602.length co9, .bool t605, .string (⟨#[]⟩:ByteArray)]) ?_ 3 _ rfl;(with_reducible repeat (first|refine blk_drewN ?_ _|refine blk_drew ?_|refine blk_alloc ?_ _));refine blk_put (cs:=#[.string t601, .slice Ao9 t602.length co9, .bool false, .string (⟨#[]⟩:ByteArray)]) ?_ 2 _ rfl;(with_reducible repeat (first|refine blk_drewN ?_ _|refine blk_drew ?_|refine blk_alloc ?_ _));refine blk_put (cs:=#[.string t601, .slice none 0 0, .bool false, .string (⟨#[]⟩:ByteArray)]) ?_ 1 _ rfl;(with_reducible repeat (first|refine blk_drewN ?_ _|refine blk_drew ?_|refine blk_alloc ?_ _));refine blk_put (cs:=#[.string (⟨#[]⟩:ByteArray), .slice none 0 0, .bool false, .string (⟨#[]⟩:ByteArray)]) ?_ 0 _ rfl;(with_reducible repeat (first|refine blk_drewN ?_ _|refine blk_drew ?_|refine blk_alloc ?_ _));exact BK608.out) hb);have n3_:=Aside0.mk (below_step (by repeat (first|(with_reducible first|exact HB.out|apply below_alloc|apply pw_below_drewN|apply below_drew1|refine below_set ?_ GE608.out)|exact HB.out)) hb);clear HO604;clear BK608;clear HB;have HO604:=n0_;have HO612:=n1_;have BK608:=n2_;have HB:=n3_;clear n0_ n1_ n2_ n3_;(try clear hb);(try clear hb2);(try clear hk);(try clear hi);(try clear ho0))|((with_reducible refine gate_dst (N:=5) rfl ?_);refine box_event ?hg (N:=5) ?hd (cs:=#[.string (⟨#[]⟩:ByteArray), .slice none 0 0, .bool false, .string (⟨#[]⟩:ByteArray)]) (t:=24) ?hr ?_;(case hd=>rfl);(case hg=>rfl);(case hr=>first|(go_simp;done)|(go_simp;rfl));intro gb616 hg w11 hbox hb;have n0_:=Aside0.mk (Kd.R_below (by (with_reducible repeat (first|apply Kd.R_alloc|apply Kd.R_drewN|apply Kd.R_drew));exact HO604.out) hb);have n1_:=Aside0.mk (Kd.R_below (by (with_reducible repeat (first|apply Kd.R_alloc|apply Kd.R_drewN|apply Kd.R_drew));exact HO612.out) hb);have n2_:=Aside0.mk (blk_below (g:=gb608) (o:=.cells #[.string t601, .slice Ao9 t602.length co9, .bool t605, .string t606] 24 (0,0)) (by (with_reducible repeat (first|refine blk_drewN ?_ _|refine blk_drew ?_|refine blk_alloc ?_ _));exact BK608.out) hb);have n3_:=Aside0.mk (below_step (by repeat (first|(with_reducible first|exact HB.out|apply below_alloc|apply pw_below_drewN|apply below_drew1|refine below_set ?_ GE608.out)|exact HB.out)) hb);have n4_:=Aside0.mk (hbox);have n5_:=Aside0.mk ((by rw [hg];exact (below_size (by repeat (first|(with_reducible first|exact HB.out|apply below_alloc|apply pw_below_drewN|apply below_drew1|refine below_set ?_ GE608.out)|exact HB.out))):w.heap.size ≤ gb616));have n6_:=n5_;have n7_:=Aside0.mk ((by rw [hg];exact Nat.ne_of_lt (blk_lt (g:=gb608) (o:=.cells #[.string t601, .slice Ao9 t602.length co9, .bool t605, .string t606] 24 (0,0)) (by (with_reducible repeat (first|refine blk_drewN ?_ _|refine blk_drew ?_|refine blk_alloc ?_ _));exact BK608.out)):gb608 ≠ gb616));have n8_:=Aside0.mk ((by rw [hg];exact Nat.ne_of_gt (blk_lt (g:=gb608) (o:=.cells #[.string t601, .slice Ao9 t602.length co9, .bool t605, .string t606] 24 (0,0)) (by (with_reducible repeat (first|refine blk_drewN ?_ _|refine blk_drew ?_|refine blk_alloc ?_ _));exact BK608.out)):gb616 ≠ gb608));clear HO604;clear HO612;clear BK608;clear HB;have HO604:=n0_;have HO612:=n1_;have BK608:=n2_;have HB:=n3_;have BK616:=n4_;have GW616:=n5_;have GE616:=n6_;have NB608_616:=n7_;have NB616_608:=n8_;clear n0_ n1_ n2_ n3_ n4_ n5_ n6_ n7_ n8_;clear hb hbox hg;have hnb12:=NB616_608.out;have hnc12:=NB608_616.out;have hcz13_0:w11.cell? ⟨gb616,0,none⟩ = some (.string (⟨#[]⟩:ByteArray)):=(blk_cell BK616.out 0).trans rfl;have hcz13_1:w11.cell? ⟨gb616,1,none⟩ = some (.slice none 0 0):=(blk_cell BK616.out 1).trans rfl;have hcz13_2:w11.cell? ⟨gb616,2,none⟩ = some (.bool false):=(blk_cell BK616.out 2).trans rfl;have hcz13_3:w11.cell? ⟨gb616,3,none⟩ = some (.string (⟨#[]⟩:ByteArray)):=(blk_cell BK616.out 3).trans rfl;have hfz13_0:=blk_frozen BK616.out 0;have hfz13_1:=blk_frozen BK616.out 1;have hfz13_2:=blk_frozen BK616.out 2;have hfz13_3:=blk_frozen BK616.out 3;obtain ⟨Ao14,co14,eo14⟩:=Kd.R_slice HO612.out;subst eo14))
  (try simp only [Act.put,List.setIfInBounds_toArray,List.set_cons_zero,List.set_cons_succ])
  go_cut [32] (fun v32 wc=>∃ (kq:Nat) (x32_4:Bool),v32 = .bool x32_4 ∧ Aside0 (laws_FnExactAddrRead.j0 kq a0 t607 x32_4 t601 t602 t605 t606 t609 t610 t613 t614 = some r) ∧ Aside0 (kq ≤ k) ∧ Aside0 (Kd.R Kd.string 9 wc w.heap.size (fun k_=>some k_ ≠ ((.slice Ao14 t610.length co14):Value).ownBlock) (.slice Ao9 t602.length co9) t602) ∧ Aside0 (Kd.R Kd.string 9 wc w.heap.size (fun k_=>some k_ ≠ ((.slice Ao9 t602.length co9):Value).ownBlock) (.slice Ao14 t610.length co14) t610) ∧ Aside0 (wc.heap[gb608]? = some (.cells #[.string t601,(.slice Ao9 t602.length co9), .bool t605, .string t606] 24 (0,0))) ∧ Aside0 (wc.heap[gb616]? = some (.cells #[.string t609,(.slice Ao14 t610.length co14), .bool t613, .string t614] 24 (0,0))) ∧ Aside0 (Below w.heap.size w wc))
  case first =>
   have H:=HC5.out
   clear HC5
   replace H:=Option.bind_eq_some_iff.mp H
   obtain ⟨t617,A150,H⟩:=H
   replace H:(if t617 = true then (laws_FnExactAddrRead.j0 k a0 t607 (t615 != t607) t601 t602 t605 t606 t609 t610 t613 t614) else (laws_FnExactAddrRead.j0 k a0 t607 true t601 t602 t605 t606 t609 t610 t613 t614)) = some r:=H
   have A15:=Aside0.mk A150
   clear A150
   by_cases c16:t617 = true
   ·subst c16
    have H1:(laws_FnExactAddrRead.j0 k a0 t607 (t615 != t607) t601 t602 t605 t606 t609 t610 t613 t614) = some r:=by rw [if_pos rfl] at H;exact H
    clear H
    have H:=H1
    clear H1
    have H':=Aside0.mk H
    clear H
    have hnb17:=NB616_608.out
    have hnc17:=NB608_616.out
    have hcz18_0:w11.cell? ⟨gb616,0,none⟩ = some (.string (⟨#[]⟩:ByteArray)):=(blk_cell BK616.out 0).trans rfl
    have hcz18_1:w11.cell? ⟨gb616,1,none⟩ = some (.slice none 0 0):=(blk_cell BK616.out 1).trans rfl
    have hcz18_2:w11.cell? ⟨gb616,2,none⟩ = some (.bool false):=(blk_cell BK616.out 2).trans rfl
    have hcz18_3:w11.cell? ⟨gb616,3,none⟩ = some (.string (⟨#[]⟩:ByteArray)):=(blk_cell BK616.out 3).trans rfl
    have hfz18_0:=blk_frozen BK616.out 0
    have hfz18_1:=blk_frozen BK616.out 1
    have hfz18_2:=blk_frozen BK616.out 2
    have hfz18_3:=blk_frozen BK616.out 3
    have hcz19_0:w11.cell? ⟨gb608,0,none⟩ = some (.string t601):=(blk_cell BK608.out 0).trans rfl
    have hcz19_1:w11.cell? ⟨gb608,1,none⟩ = some (.slice Ao9 t602.length co9):=(blk_cell BK608.out 1).trans rfl
    have hcz19_2:w11.cell? ⟨gb608,2,none⟩ = some (.bool t605):=(blk_cell BK608.out 2).trans rfl
    have hcz19_3:w11.cell? ⟨gb608,3,none⟩ = some (.string t606):=(blk_cell BK608.out 3).trans rfl
    have hfz19_0:=blk_frozen BK608.out 0
    have hfz19_1:=blk_frozen BK608.out 1
    have hfz19_2:=blk_frozen BK608.out 2
    have hfz19_3:=blk_frozen BK608.out 3
    go_wp2_with (first|((with_reducible refine gate_callee (f:=10) rfl ?_);refine goesL_ (some 26) rfl rfl Tryd.func10 (by kernel_rfl) rfl #[.agg #[.string t609, .slice Ao14 t610.length co14, .bool t613, .string t614], .agg #[.string t601, .slice Ao9 t602.length co9, .bool t605, .string t606]] rfl (by (try simp only [List.map_toArray,List.map_cons,List.map_nil]);first|done|rfl|(simp only [List.length_drop,List.length_take];rfl)) ?_;(with_reducible refine (laws_eqAddr.calls k t609 _ _ t610 t613 t614 t601 _ _ t602 t605 t606 true _ ?side1 ?side2 ?side3 ?side4 A15.out).mono ?_);(case side1=>refine (Kd.R_reads' (e:=9) (base:=w.heap.size) (ok:=fun k_=>(True ∧ some k_ ≠ (.slice Ao9 t602.length co9:Value).ownBlock)) (n:=t610.length) (c:=co14) ?_).2.2;exact (by (with_reducible repeat (first|apply Kd.R_alloc|apply Kd.R_drewN|apply Kd.R_drew));exact (Kd.R_mono (Kd.R_far (p:=⟨gb616,3,none⟩) (Kd.R_far (p:=⟨gb616,2,none⟩) (Kd.R_far (p:=⟨gb616,1,none⟩) (Kd.R_far (p:=⟨gb616,0,none⟩) (Kd.R_types HO612.out BK616.out (by decide)) (fun _ hk=>hk.2) (.string t609)) (fun _ hk=>hk.2) (.slice Ao14 t610.length co14)) (fun _ hk=>hk.2) (.bool t613)) (fun _ hk=>hk.2) (.string t614)) (fun _ h_=>h_.1))));(case side2=>exact (Kd.R_reads' HO612.out).2.1);(case side3=>refine (Kd.R_reads' (e:=9) (base:=w.heap.size) (ok:=fun k_=>(True ∧ some k_ ≠ (.slice Ao14 t610.length co14:Value).ownBlock)) (n:=t602.length) (c:=co9) ?_).2.2;exact (by (with_reducible repeat (first|apply Kd.R_alloc|apply Kd.R_drewN|apply Kd.R_drew));exact (Kd.R_mono (Kd.R_far (p:=⟨gb616,3,none⟩) (Kd.R_far (p:=⟨gb616,2,none⟩) (Kd.R_far (p:=⟨gb616,1,none⟩) (Kd.R_far (p:=⟨gb616,0,none⟩) (Kd.R_types HO604.out BK616.out (by decide)) (fun _ hk=>hk.2) (.string t609)) (fun _ hk=>hk.2) (.slice Ao14 t610.length co14)) (fun _ hk=>hk.2) (.bool t613)) (fun _ hk=>hk.2) (.string t614)) (fun _ h_=>h_.1))));(case side4=>exact (Kd.R_reads' HO604.out).2.1);rintro e w20 ⟨rfl,hb⟩;refine ⟨_,rfl,?_⟩;have n0_:=Aside0.mk (Kd.R_below (by (with_reducible repeat (first|apply Kd.R_alloc|apply Kd.R_drewN|apply Kd.R_drew));exact (Kd.R_mono (Kd.R_far (p:=⟨gb616,3,none⟩) (Kd.R_far (p:=⟨gb616,2,none⟩) (Kd.R_far (p:=⟨gb616,1,none⟩) (Kd.R_far (p:=⟨gb616,0,none⟩) (Kd.R_types HO604.out BK616.out (by decide)) (fun _ hk=>hk.2) (.string t609)) (fun _ hk=>hk.2) (.slice Ao14 t610.length co14)) (fun _ hk=>hk.2) (.bool t613)) (fun _ hk=>hk.2) (.string t614)) (fun _ h_=>h_.1))) hb);have n1_:=Aside0.mk (Kd.R_below (by (with_reducible repeat (first|apply Kd.R_alloc|apply Kd.R_drewN|apply Kd.R_drew));exact (Kd.R_mono (Kd.R_far (p:=⟨gb616,3,none⟩) (Kd.R_far (p:=⟨gb616,2,none⟩) (Kd.R_far (p:=⟨gb616,1,none⟩) (Kd.R_far (p:=⟨gb616,0,none⟩) (Kd.R_types HO612.out BK616.out (by decide)) (fun _ hk=>hk.2) (.string t609)) (fun _ hk=>hk.2) (.slice Ao14 t610.length co14)) (fun _ hk=>hk.2) (.bool t613)) (fun _ hk=>hk.2) (.string t614)) (fun _ h_=>h_.1))) hb);have n2_:=Aside0.mk (blk_below (g:=gb608) (o:=.cells #[.string t601, .slice Ao9 t602.length co9, .bool t605, .string t606] 24 (0,0)) (by (with_reducible repeat (first|refine blk_drewN ?_ _|refine blk_drew ?_|refine blk_alloc ?_ _));refine blk_far ?_ NB608_616.out _;(with_reducible repeat (first|refine blk_drewN ?_ _|refine blk_drew ?_|refine blk_alloc ?_ _));refine blk_far ?_ NB608_616.out _;(with_reducible repeat (first|refine blk_drewN ?_ _|refine blk_drew ?_|refine blk_alloc ?_ _));refine blk_far ?_ NB608_616.out _;(with_reducible repeat (first|refine blk_drewN ?_ _|refine blk_drew ?_|refine blk_alloc ?_ _));refine blk_far ?_ NB608_616.out _;(with_reducible repeat (first|refine blk_drewN ?_ _|refine blk_drew ?_|refine blk_alloc ?_ _));exact BK608.out) hb);have n3_:=Aside0.mk (blk_below (g:=gb616) (o:=.cells #[.string t609, .slice Ao14 t610.length co14, .bool t613, .string t614] 24 (0,0)) (by (with_reducible repeat (first|refine blk_drewN ?_ _|refine blk_drew ?_|refine blk_alloc ?_ _));refine blk_put (cs:=#[.string t609, .slice Ao14 t610.length co14, .bool t613, .string (⟨#[]⟩:ByteArray)]) ?_ 3 _ rfl;(with_reducible repeat (first|refine blk_drewN ?_ _|refine blk_drew ?_|refine blk_alloc ?_ _));refine blk_put (cs:=#[.string t609, .slice Ao14 t610.length co14, .bool false, .string (⟨#[]⟩:ByteArray)]) ?_ 2 _ rfl;(with_reducible repeat (first|refine blk_drewN ?_ _|refine blk_drew ?_|refine blk_alloc ?_ _));refine blk_put (cs:=#[.string t609, .slice none 0 0, .bool false, .string (⟨#[]⟩:ByteArray)]) ?_ 1 _ rfl;(with_reducible repeat (first|refine blk_drewN ?_ _|refine blk_drew ?_|refine blk_alloc ?_ _));refine blk_put (cs:=#[.string (⟨#[]⟩:ByteArray), .slice none 0 0, .bool false, .string (⟨#[]⟩:ByteArray)]) ?_ 0 _ rfl;(with_reducible repeat (first|refine blk_drewN ?_ _|refine blk_drew ?_|refine blk_alloc ?_ _));exact BK616.out) hb);have n4_:=Aside0.mk (below_step (by repeat (first|(with_reducible first|exact HB.out|apply below_alloc|apply pw_below_drewN|apply below_drew1|refine below_set ?_ GE608.out|refine below_set ?_ GE616.out)|exact HB.out)) hb);clear HO604;clear HO612;clear BK608;clear BK616;clear HB;have HO604:=n0_;have HO612:=n1_;have BK608:=n2_;have BK616:=n3_;have HB:=n4_;clear n0_ n1_ n2_ n3_ n4_;(try clear hb);(try clear hb2);(try clear hk);(try clear hi)))
    go_meet
    case rel=>exact ⟨_,((t615 != t607)),(by first|rfl|(simp;done)|(simp only [i64_w,i32_w];done)|(simp only [i64_w,i32_w];rfl)|(simp [*];done)|(simp [emp_bne,emp_beq];done)),H',⟨by first|omega|exact Nat.le_refl _⟩,⟨by (with_reducible repeat (first|apply Kd.R_alloc|apply Kd.R_drewN|apply Kd.R_drew));exact Kd.R_mono HO604.out (fun _ hk=>hk.2)⟩,⟨by (with_reducible repeat (first|apply Kd.R_alloc|apply Kd.R_drewN|apply Kd.R_drew));exact Kd.R_mono HO612.out (fun _ hk=>hk.2)⟩,⟨by (with_reducible repeat (first|refine blk_drewN ?_ _|refine blk_drew ?_|refine blk_alloc ?_ _));exact BK608.out⟩,⟨by (with_reducible repeat (first|refine blk_drewN ?_ _|refine blk_drew ?_|refine blk_alloc ?_ _));exact BK616.out⟩,⟨by repeat (first|(with_reducible first|exact HB.out|apply below_alloc|apply pw_below_drewN|apply below_drew1|refine below_set ?_ GE608.out|refine below_set ?_ GE616.out)|exact HB.out)⟩⟩
   ·replace c16:=Bool.eq_false_iff.mpr c16
    subst c16
    have H1:(laws_FnExactAddrRead.j0 k a0 t607 true t601 t602 t605 t606 t609 t610 t613 t614) = some r:=by rw [if_neg (show ¬ (false = true) by decide)] at H;exact H
    clear H
    have H:=H1
    clear H1
    have H':=Aside0.mk H
    clear H
    have hnb21:=NB616_608.out
    have hnc21:=NB608_616.out
    have hcz22_0:w11.cell? ⟨gb616,0,none⟩ = some (.string (⟨#[]⟩:ByteArray)):=(blk_cell BK616.out 0).trans rfl
    have hcz22_1:w11.cell? ⟨gb616,1,none⟩ = some (.slice none 0 0):=(blk_cell BK616.out 1).trans rfl
    have hcz22_2:w11.cell? ⟨gb616,2,none⟩ = some (.bool false):=(blk_cell BK616.out 2).trans rfl
    have hcz22_3:w11.cell? ⟨gb616,3,none⟩ = some (.string (⟨#[]⟩:ByteArray)):=(blk_cell BK616.out 3).trans rfl
    have hfz22_0:=blk_frozen BK616.out 0
    have hfz22_1:=blk_frozen BK616.out 1
    have hfz22_2:=blk_frozen BK616.out 2
    have hfz22_3:=blk_frozen BK616.out 3
    have hcz23_0:w11.cell? ⟨gb608,0,none⟩ = some (.string t601):=(blk_cell BK608.out 0).trans rfl
    have hcz23_1:w11.cell? ⟨gb608,1,none⟩ = some (.slice Ao9 t602.length co9):=(blk_cell BK608.out 1).trans rfl
    have hcz23_2:w11.cell? ⟨gb608,2,none⟩ = some (.bool t605):=(blk_cell BK608.out 2).trans rfl
    have hcz23_3:w11.cell? ⟨gb608,3,none⟩ = some (.string t606):=(blk_cell BK608.out 3).trans rfl
    have hfz23_0:=blk_frozen BK608.out 0
    have hfz23_1:=blk_frozen BK608.out 1
    have hfz23_2:=blk_frozen BK608.out 2
    have hfz23_3:=blk_frozen BK608.out 3
    go_wp2_with (first|((with_reducible refine gate_callee (f:=10) rfl ?_);refine goesL_ (some 26) rfl rfl Tryd.func10 (by kernel_rfl) rfl #[.agg #[.string t609, .slice Ao14 t610.length co14, .bool t613, .string t614], .agg #[.string t601, .slice Ao9 t602.length co9, .bool t605, .string t606]] rfl (by (try simp only [List.map_toArray,List.map_cons,List.map_nil]);first|done|rfl|(simp only [List.length_drop,List.length_take];rfl)) ?_;(with_reducible refine (laws_eqAddr.calls k t609 _ _ t610 t613 t614 t601 _ _ t602 t605 t606 false _ ?side1 ?side2 ?side3 ?side4 A15.out).mono ?_);(case side1=>refine (Kd.R_reads' (e:=9) (base:=w.heap.size) (ok:=fun k_=>(True ∧ some k_ ≠ (.slice Ao9 t602.length co9:Value).ownBlock)) (n:=t610.length) (c:=co14) ?_).2.2;exact (by (with_reducible repeat (first|apply Kd.R_alloc|apply Kd.R_drewN|apply Kd.R_drew));exact (Kd.R_mono (Kd.R_far (p:=⟨gb616,3,none⟩) (Kd.R_far (p:=⟨gb616,2,none⟩) (Kd.R_far (p:=⟨gb616,1,none⟩) (Kd.R_far (p:=⟨gb616,0,none⟩) (Kd.R_types HO612.out BK616.out (by decide)) (fun _ hk=>hk.2) (.string t609)) (fun _ hk=>hk.2) (.slice Ao14 t610.length co14)) (fun _ hk=>hk.2) (.bool t613)) (fun _ hk=>hk.2) (.string t614)) (fun _ h_=>h_.1))));(case side2=>exact (Kd.R_reads' HO612.out).2.1);(case side3=>refine (Kd.R_reads' (e:=9) (base:=w.heap.size) (ok:=fun k_=>(True ∧ some k_ ≠ (.slice Ao14 t610.length co14:Value).ownBlock)) (n:=t602.length) (c:=co9) ?_).2.2;exact (by (with_reducible repeat (first|apply Kd.R_alloc|apply Kd.R_drewN|apply Kd.R_drew));exact (Kd.R_mono (Kd.R_far (p:=⟨gb616,3,none⟩) (Kd.R_far (p:=⟨gb616,2,none⟩) (Kd.R_far (p:=⟨gb616,1,none⟩) (Kd.R_far (p:=⟨gb616,0,none⟩) (Kd.R_types HO604.out BK616.out (by decide)) (fun _ hk=>hk.2) (.string t609)) (fun _ hk=>hk.2) (.slice Ao14 t610.length co14)) (fun _ hk=>hk.2) (.bool t613)) (fun _ hk=>hk.2) (.string t614)) (fun _ h_=>h_.1))));(case side4=>exact (Kd.R_reads' HO604.out).2.1);rintro e w24 ⟨rfl,hb⟩;refine ⟨_,rfl,?_⟩;have n0_:=Aside0.mk (Kd.R_below (by (with_reducible repeat (first|apply Kd.R_alloc|apply Kd.R_drewN|apply Kd.R_drew));exact (Kd.R_mono (Kd.R_far (p:=⟨gb616,3,none⟩) (Kd.R_far (p:=⟨gb616,2,none⟩) (Kd.R_far (p:=⟨gb616,1,none⟩) (Kd.R_far (p:=⟨gb616,0,none⟩) (Kd.R_types HO604.out BK616.out (by decide)) (fun _ hk=>hk.2) (.string t609)) (fun _ hk=>hk.2) (.slice Ao14 t610.length co14)) (fun _ hk=>hk.2) (.bool t613)) (fun _ hk=>hk.2) (.string t614)) (fun _ h_=>h_.1))) hb);have n1_:=Aside0.mk (Kd.R_below (by (with_reducible repeat (first|apply Kd.R_alloc|apply Kd.R_drewN|apply Kd.R_drew));exact (Kd.R_mono (Kd.R_far (p:=⟨gb616,3,none⟩) (Kd.R_far (p:=⟨gb616,2,none⟩) (Kd.R_far (p:=⟨gb616,1,none⟩) (Kd.R_far (p:=⟨gb616,0,none⟩) (Kd.R_types HO612.out BK616.out (by decide)) (fun _ hk=>hk.2) (.string t609)) (fun _ hk=>hk.2) (.slice Ao14 t610.length co14)) (fun _ hk=>hk.2) (.bool t613)) (fun _ hk=>hk.2) (.string t614)) (fun _ h_=>h_.1))) hb);have n2_:=Aside0.mk (blk_below (g:=gb608) (o:=.cells #[.string t601, .slice Ao9 t602.length co9, .bool t605, .string t606] 24 (0,0)) (by (with_reducible repeat (first|refine blk_drewN ?_ _|refine blk_drew ?_|refine blk_alloc ?_ _));refine blk_far ?_ NB608_616.out _;(with_reducible repeat (first|refine blk_drewN ?_ _|refine blk_drew ?_|refine blk_alloc ?_ _));refine blk_far ?_ NB608_616.out _;(with_reducible repeat (first|refine blk_drewN ?_ _|refine blk_drew ?_|refine blk_alloc ?_ _));refine blk_far ?_ NB608_616.out _;(with_reducible repeat (first|refine blk_drewN ?_ _|refine blk_drew ?_|refine blk_alloc ?_ _));refine blk_far ?_ NB608_616.out _;(with_reducible repeat (first|refine blk_drewN ?_ _|refine blk_drew ?_|refine blk_alloc ?_ _));exact BK608.out) hb);have n3_:=Aside0.mk (blk_below (g:=gb616) (o:=.cells #[.string t609, .slice Ao14 t610.length co14, .bool t613, .string t614] 24 (0,0)) (by (with_reducible repeat (first|refine blk_drewN ?_ _|refine blk_drew ?_|refine blk_alloc ?_ _));refine blk_put (cs:=#[.string t609, .slice Ao14 t610.length co14, .bool t613, .string (⟨#[]⟩:ByteArray)]) ?_ 3 _ rfl;(with_reducible repeat (first|refine blk_drewN ?_ _|refine blk_drew ?_|refine blk_alloc ?_ _));refine blk_put (cs:=#[.string t609, .slice Ao14 t610.length co14, .bool false, .string (⟨#[]⟩:ByteArray)]) ?_ 2 _ rfl;(with_reducible repeat (first|refine blk_drewN ?_ _|refine blk_drew ?_|refine blk_alloc ?_ _));refine blk_put (cs:=#[.string t609, .slice none 0 0, .bool false, .string (⟨#[]⟩:ByteArray)]) ?_ 1 _ rfl;(with_reducible repeat (first|refine blk_drewN ?_ _|refine blk_drew ?_|refine blk_alloc ?_ _));refine blk_put (cs:=#[.string (⟨#[]⟩:ByteArray), .slice none 0 0, .bool false, .string (⟨#[]⟩:ByteArray)]) ?_ 0 _ rfl;(with_reducible repeat (first|refine blk_drewN ?_ _|refine blk_drew ?_|refine blk_alloc ?_ _));exact BK616.out) hb);have n4_:=Aside0.mk (below_step (by repeat (first|(with_reducible first|exact HB.out|apply below_alloc|apply pw_below_drewN|apply below_drew1|refine below_set ?_ GE608.out|refine below_set ?_ GE616.out)|exact HB.out)) hb);clear HO604;clear HO612;clear BK608;clear BK616;clear HB;have HO604:=n0_;have HO612:=n1_;have BK608:=n2_;have BK616:=n3_;have HB:=n4_;clear n0_ n1_ n2_ n3_ n4_;(try clear hb);(try clear hb2);(try clear hk);(try clear hi)))
    go_meet
    case rel=>exact ⟨_,(true),(by first|rfl|(simp;done)|(simp only [i64_w,i32_w];done)|(simp only [i64_w,i32_w];rfl)|(simp [*];done)|(simp [emp_bne,emp_beq];done)),H',⟨by first|omega|exact Nat.le_refl _⟩,⟨by (with_reducible repeat (first|apply Kd.R_alloc|apply Kd.R_drewN|apply Kd.R_drew));exact Kd.R_mono HO604.out (fun _ hk=>hk.2)⟩,⟨by (with_reducible repeat (first|apply Kd.R_alloc|apply Kd.R_drewN|apply Kd.R_drew));exact Kd.R_mono HO612.out (fun _ hk=>hk.2)⟩,⟨by (with_reducible repeat (first|refine blk_drewN ?_ _|refine blk_drew ?_|refine blk_alloc ?_ _));exact BK608.out⟩,⟨by (with_reducible repeat (first|refine blk_drewN ?_ _|refine blk_drew ?_|refine blk_alloc ?_ _));exact BK616.out⟩,⟨by repeat (first|(with_reducible first|exact HB.out|apply below_alloc|apply pw_below_drewN|apply below_drew1|refine below_set ?_ GE608.out|refine below_set ?_ GE616.out)|exact HB.out)⟩⟩
  case rest =>
   clear HC5
   try clear c1
   try clear c2
   try clear c2b0
   try clear c2b1
   try clear p2
   try clear c3
   try clear c8
   try clear c9
   try clear c10
   try clear c12
   try clear c16
   try clear c17
   try clear c21
   try clear hcz13_0
   try clear hcz13_1
   try clear hcz13_2
   try clear hcz13_3
   try clear hcz18_0
   try clear hcz18_1
   try clear hcz18_2
   try clear hcz18_3
   try clear hcz19_0
   try clear hcz19_1
   try clear hcz19_2
   try clear hcz19_3
   try clear hcz22_0
   try clear hcz22_1
   try clear hcz22_2
   try clear hcz22_3
   try clear hcz23_0
   try clear hcz23_1
   try clear hcz23_2
   try clear hcz23_3
   try clear hcz8_0
   try clear hcz8_1
   try clear hcz8_2
   try clear hcz8_3
   try clear hfz13_0
   try clear hfz13_1
   try clear hfz13_2
   try clear hfz13_3
   try clear hfz18_0
   try clear hfz18_1
   try clear hfz18_2
   try clear hfz18_3
   try clear hfz19_0
   try clear hfz19_1
   try clear hfz19_2
   try clear hfz19_3
   try clear hfz22_0
   try clear hfz22_1
   try clear hfz22_2
   try clear hfz22_3
   try clear hfz23_0
   try clear hfz23_1
   try clear hfz23_2
   try clear hfz23_3
   try clear hfz8_0
   try clear hfz8_1
   try clear hfz8_2
   try clear hfz8_3
   obtain ⟨kq,x32_4,rfl,HA,HJ4,HO_609001,HO_617001,BK608,BK616,HB⟩:=hcut
   cases kq with
   | zero=>exact absurd HA.out (by simp [laws_FnExactAddrRead.j0])
   | succ kj4 =>
    have H:=HA.out
    clear HA
    simp only [laws_FnExactAddrRead.j0] at H
    by_cases c25:x32_4 = true
    ·subst c25
     have H1:(some false) = some r:=by rw [if_pos rfl] at H;exact H
     clear H
     have H:=H1
     clear H1
     obtain rfl:=Option.some.inj H
     go_wp2
     go_ret
     exact ⟨by first|rfl|(simp <;> rfl)|(simp [*] <;> rfl),by repeat (first|(with_reducible first|exact HB.out|apply below_alloc|apply pw_below_drewN|apply below_drew1|refine below_set ?_ GE608.out|refine below_set ?_ GE616.out)|exact HB.out)⟩
    ·replace c25:=Bool.eq_false_iff.mpr c25
     subst c25
     have H1:((laws_markAddr.f kj4 t609 t610 t613 t614 1).bind fun bt618=>((laws_heldAddr.f kj4 t609 bt618.2 t613 t614 1).bind fun t620=>(if t620 < 0 then (some false) else (if t620 = bt618.1 then ((impl_AddrRead.f kj4 a0).bind fun bt621=>((laws_eqAddr.f kj4 bt621.1 bt621.2.1 bt621.2.2.1 bt621.2.2.2.1 t601 t602 t605 t606).bind fun t629=>(if t629 = true then (laws_FnExactAddrRead.j1 kj4 bt618.1 (bt621.2.2.2.2 != t607) t609 bt618.2 t613 t614) else (laws_FnExactAddrRead.j1 kj4 bt618.1 true t609 bt618.2 t613 t614)))) else (some false))))) = some r:=by rw [if_neg (show ¬ (false = true) by decide)] at H;exact H
     clear H
     have H:=H1
     clear H1
     replace H:=Option.bind_eq_some_iff.mp H
     obtain ⟨⟨t618,t619⟩,A260,H⟩:=H
     replace H:((laws_heldAddr.f kj4 t609 t619 t613 t614 1).bind fun t620=>(if t620 < 0 then (some false) else (if t620 = t618 then ((impl_AddrRead.f kj4 a0).bind fun bt621=>((laws_eqAddr.f kj4 bt621.1 bt621.2.1 bt621.2.2.1 bt621.2.2.2.1 t601 t602 t605 t606).bind fun t629=>(if t629 = true then (laws_FnExactAddrRead.j1 kj4 t618 (bt621.2.2.2.2 != t607) t609 t619 t613 t614) else (laws_FnExactAddrRead.j1 kj4 t618 true t609 t619 t613 t614)))) else (some false)))) = some r:=H
     have A26:=Aside0.mk A260
     clear A260
     replace H:=Option.bind_eq_some_iff.mp H
     obtain ⟨t620,A270,H⟩:=H
     replace H:(if t620 < 0 then (some false) else (if t620 = t618 then ((impl_AddrRead.f kj4 a0).bind fun bt621=>((laws_eqAddr.f kj4 bt621.1 bt621.2.1 bt621.2.2.1 bt621.2.2.2.1 t601 t602 t605 t606).bind fun t629=>(if t629 = true then (laws_FnExactAddrRead.j1 kj4 t618 (bt621.2.2.2.2 != t607) t609 t619 t613 t614) else (laws_FnExactAddrRead.j1 kj4 t618 true t609 t619 t613 t614)))) else (some false))) = some r:=H
     have A27:=Aside0.mk A270
     clear A270
     by_cases c28:t620 < 0
     ·rw [if_pos c28] at H
      have c28b0:decide (t620 < 0) = true:=decide_eq_true c28
      clear c28
      obtain rfl:=Option.some.inj H
      have hnb29:=NB616_608.out
      have hnc29:=NB608_616.out
      have hcz30_0:wc.cell? ⟨gb616,0,none⟩ = some (.string t609):=(blk_cell BK616.out 0).trans rfl
      have hcz30_1:wc.cell? ⟨gb616,1,none⟩ = some (.slice Ao14 t610.length co14):=(blk_cell BK616.out 1).trans rfl
      have hcz30_2:wc.cell? ⟨gb616,2,none⟩ = some (.bool t613):=(blk_cell BK616.out 2).trans rfl
      have hcz30_3:wc.cell? ⟨gb616,3,none⟩ = some (.string t614):=(blk_cell BK616.out 3).trans rfl
      have hfz30_0:=blk_frozen BK616.out 0
      have hfz30_1:=blk_frozen BK616.out 1
      have hfz30_2:=blk_frozen BK616.out 2
      have hfz30_3:=blk_frozen BK616.out 3
      go_wp2_with (first|((with_reducible refine gate_callee (f:=11) rfl ?_);refine goesL_ (some 35) rfl rfl Tryd.func11 (by kernel_rfl) rfl #[.agg #[.string t609, .slice Ao14 t610.length co14, .bool t613, .string t614], .int .i64 1] rfl (by (try simp only [List.map_toArray,List.map_cons,List.map_nil]);first|done|rfl|(simp only [List.length_drop,List.length_take];rfl)) ?_;(with_reducible refine (laws_markAddr.calls kj4 t609 (fun k_=>some k_ = (.slice Ao14 t610.length co14:Value).ownBlock) (.slice Ao14 t610.length co14) t610 t613 t614 1 t618 t619 w _ ?side1 ?side2 A26.out).mono ?_);(case side1=>repeat (first|(with_reducible first|exact HB.out|apply below_alloc|apply pw_below_drewN|apply below_drew1|refine below_set ?_ GE608.out|refine below_set ?_ GE616.out)|exact HB.out));(case side2=>exact Kd.R_tight rfl HO_617001.out);rintro e w31 ⟨rfl,hy0,hb,hkp⟩;refine ⟨_,rfl,?_⟩;have n0_:=Aside0.mk (Kd.R_mono (ok':=fun k_=>some k_ ≠ (.slice Ao14 t610.length co14:Value).ownBlock) (Kd.R_keptB (HO_609001.out) hkp (fun k_ hk_ hs_=>(hk_) hs_)) (fun k_ hk_=>hk_.1));have n1_:=Aside0.mk (Kd.R_reok rfl hy0 (fun k_ e_=>HO_617001.out.1 k_ e_));have n2_:=Aside0.mk (blk_kept (by (with_reducible repeat (first|refine blk_drewN ?_ _|refine blk_drew ?_|refine blk_alloc ?_ _));exact BK608.out) hkp (fun hs_=>(fun e_=>(Kd.R_ne HO_617001.out BK608.out (by decide)) e_) hs_));have n3_:=Aside0.mk (blk_kept (by (with_reducible repeat (first|refine blk_drewN ?_ _|refine blk_drew ?_|refine blk_alloc ?_ _));exact BK616.out) hkp (fun hs_=>(fun e_=>(Kd.R_ne HO_617001.out BK616.out (by decide)) e_) hs_));have n4_:=Aside0.mk (hb);clear HO_609001;clear HO_617001;clear BK608;clear BK616;clear HB;have HO_609001:=n0_;have HO_617001:=n1_;have BK608:=n2_;have BK616:=n3_;have HB:=n4_;clear n0_ n1_ n2_ n3_ n4_;(try clear hb);(try clear hkp);(try clear hy0);have hcz32_0:w31.cell? ⟨gb616,0,none⟩ = some (.string t609):=(blk_cell BK616.out 0).trans rfl;have hcz32_1:w31.cell? ⟨gb616,1,none⟩ = some (.slice Ao14 t610.length co14):=(blk_cell BK616.out 1).trans rfl;have hcz32_2:w31.cell? ⟨gb616,2,none⟩ = some (.bool t613):=(blk_cell BK616.out 2).trans rfl;have hcz32_3:w31.cell? ⟨gb616,3,none⟩ = some (.string t614):=(blk_cell BK616.out 3).trans rfl;have hfz32_0:=blk_frozen BK616.out 0;have hfz32_1:=blk_frozen BK616.out 1;have hfz32_2:=blk_frozen BK616.out 2;have hfz32_3:=blk_frozen BK616.out 3)|((with_reducible refine gate_callee (f:=12) rfl ?_);refine goesL_ (some 38) rfl rfl Tryd.func12 (by kernel_rfl) rfl #[.agg #[.string t609, .slice Ao14 t619.length co14, .bool t613, .string t614], .int .i64 1] rfl (by (try simp only [List.map_toArray,List.map_cons,List.map_nil]);first|done|(rw [show t619.length = t610.length from (Kd.R_reads' HO_617001.out).1.symm] <;> rfl)|rfl|(simp only [List.length_drop,List.length_take];rfl)) ?_;(with_reducible refine (laws_heldAddr.calls kj4 t609 _ _ t619 t613 t614 1 t620 _ ?side1 ?side2 A27.out).mono ?_);(case side1=>repeat (first|exact (Kd.R_reads' HO_617001.out).2.2|(with_reducible refine Kd.C_alloc ?_ _)|(with_reducible refine Kd.C_drewN ?_ _)|(with_reducible refine Kd.C_drew ?_)));(case side2=>rw [show t619.length = t610.length from (Kd.R_reads' HO_617001.out).1.symm];exact (Kd.R_reads' HO_617001.out).2.1);rintro e w33 ⟨rfl,hb⟩;refine ⟨_,rfl,?_⟩;have n0_:=Aside0.mk (Kd.R_below (by (with_reducible repeat (first|apply Kd.R_alloc|apply Kd.R_drewN|apply Kd.R_drew));exact HO_609001.out) hb);have n1_:=Aside0.mk (Kd.R_below (by (with_reducible repeat (first|apply Kd.R_alloc|apply Kd.R_drewN|apply Kd.R_drew));exact HO_617001.out) hb);have n2_:=Aside0.mk (blk_below (g:=gb608) (o:=.cells #[.string t601, .slice Ao9 t602.length co9, .bool t605, .string t606] 24 (0,0)) (by (with_reducible repeat (first|refine blk_drewN ?_ _|refine blk_drew ?_|refine blk_alloc ?_ _));exact BK608.out) hb);have n3_:=Aside0.mk (blk_below (g:=gb616) (o:=.cells #[.string t609, .slice Ao14 t610.length co14, .bool t613, .string t614] 24 (0,0)) (by (with_reducible repeat (first|refine blk_drewN ?_ _|refine blk_drew ?_|refine blk_alloc ?_ _));exact BK616.out) hb);have n4_:=Aside0.mk (below_step (by repeat (first|(with_reducible first|exact HB.out|apply below_alloc|apply pw_below_drewN|apply below_drew1|refine below_set ?_ GE608.out|refine below_set ?_ GE616.out)|exact HB.out)) hb);clear HO_609001;clear HO_617001;clear BK608;clear BK616;clear HB;have HO_609001:=n0_;have HO_617001:=n1_;have BK608:=n2_;have BK616:=n3_;have HB:=n4_;clear n0_ n1_ n2_ n3_ n4_;(try clear hb);(try clear hb2);(try clear hk);(try clear hi)))
      go_ret
      exact ⟨by first|rfl|(simp <;> rfl)|(simp [*] <;> rfl),by repeat (first|(with_reducible first|exact HB.out|apply below_alloc|apply pw_below_drewN|apply below_drew1|refine below_set ?_ GE608.out|refine below_set ?_ GE616.out)|exact HB.out)⟩
     ·rw [if_neg c28] at H
      have c28b0:decide (t620 < 0) = false:=decide_eq_false c28
      clear c28
      by_cases c34:t620 = t618
      ·rw [if_pos c34] at H
       have c34b0:(t620 == t618) = true:=beq_iff_eq.mpr c34
       have c34b1:(t620 != t618) = false:=bne_eq_false_iff_eq.mpr c34
       clear c34
       replace H:=Option.bind_eq_some_iff.mp H
       obtain ⟨⟨t621,t622,t625,t626,t627⟩,A350,H⟩:=H
       replace H:((laws_eqAddr.f kj4 t621 t622 t625 t626 t601 t602 t605 t606).bind fun t629=>(if t629 = true then (laws_FnExactAddrRead.j1 kj4 t618 (t627 != t607) t609 t619 t613 t614) else (laws_FnExactAddrRead.j1 kj4 t618 true t609 t619 t613 t614))) = some r:=H
       have A35:=Aside0.mk A350
       clear A350
       have HC36:=Aside0.mk H
       clear H
       have hnb37:=NB616_608.out
       have hnc37:=NB608_616.out
       have hcz38_0:wc.cell? ⟨gb616,0,none⟩ = some (.string t609):=(blk_cell BK616.out 0).trans rfl
       have hcz38_1:wc.cell? ⟨gb616,1,none⟩ = some (.slice Ao14 t610.length co14):=(blk_cell BK616.out 1).trans rfl
       have hcz38_2:wc.cell? ⟨gb616,2,none⟩ = some (.bool t613):=(blk_cell BK616.out 2).trans rfl
       have hcz38_3:wc.cell? ⟨gb616,3,none⟩ = some (.string t614):=(blk_cell BK616.out 3).trans rfl
       have hfz38_0:=blk_frozen BK616.out 0
       have hfz38_1:=blk_frozen BK616.out 1
       have hfz38_2:=blk_frozen BK616.out 2
       have hfz38_3:=blk_frozen BK616.out 3
       go_upto_region 16 with (first|((with_reducible refine gate_callee (f:=11) rfl ?_);refine goesL_ (some 35) rfl rfl Tryd.func11 (by kernel_rfl) rfl #[.agg #[.string t609, .slice Ao14 t610.length co14, .bool t613, .string t614], .int .i64 1] rfl (by (try simp only [List.map_toArray,List.map_cons,List.map_nil]);first|done|rfl|(simp only [List.length_drop,List.length_take];rfl)) ?_;(with_reducible refine (laws_markAddr.calls kj4 t609 (fun k_=>some k_ = (.slice Ao14 t610.length co14:Value).ownBlock) (.slice Ao14 t610.length co14) t610 t613 t614 1 t618 t619 w _ ?side1 ?side2 A26.out).mono ?_);(case side1=>repeat (first|(with_reducible first|exact HB.out|apply below_alloc|apply pw_below_drewN|apply below_drew1|refine below_set ?_ GE608.out|refine below_set ?_ GE616.out)|exact HB.out));(case side2=>exact Kd.R_tight rfl HO_617001.out);rintro e w39 ⟨rfl,hy0,hb,hkp⟩;refine ⟨_,rfl,?_⟩;have n0_:=Aside0.mk (Kd.R_mono (ok':=fun k_=>some k_ ≠ (.slice Ao14 t610.length co14:Value).ownBlock) (Kd.R_keptB (HO_609001.out) hkp (fun k_ hk_ hs_=>(hk_) hs_)) (fun k_ hk_=>hk_.1));have n1_:=Aside0.mk (Kd.R_reok rfl hy0 (fun k_ e_=>HO_617001.out.1 k_ e_));have n2_:=Aside0.mk (blk_kept (by (with_reducible repeat (first|refine blk_drewN ?_ _|refine blk_drew ?_|refine blk_alloc ?_ _));exact BK608.out) hkp (fun hs_=>(fun e_=>(Kd.R_ne HO_617001.out BK608.out (by decide)) e_) hs_));have n3_:=Aside0.mk (blk_kept (by (with_reducible repeat (first|refine blk_drewN ?_ _|refine blk_drew ?_|refine blk_alloc ?_ _));exact BK616.out) hkp (fun hs_=>(fun e_=>(Kd.R_ne HO_617001.out BK616.out (by decide)) e_) hs_));have n4_:=Aside0.mk (hb);clear HO_609001;clear HO_617001;clear BK608;clear BK616;clear HB;have HO_609001:=n0_;have HO_617001:=n1_;have BK608:=n2_;have BK616:=n3_;have HB:=n4_;clear n0_ n1_ n2_ n3_ n4_;(try clear hb);(try clear hkp);(try clear hy0);have hcz40_0:w39.cell? ⟨gb616,0,none⟩ = some (.string t609):=(blk_cell BK616.out 0).trans rfl;have hcz40_1:w39.cell? ⟨gb616,1,none⟩ = some (.slice Ao14 t610.length co14):=(blk_cell BK616.out 1).trans rfl;have hcz40_2:w39.cell? ⟨gb616,2,none⟩ = some (.bool t613):=(blk_cell BK616.out 2).trans rfl;have hcz40_3:w39.cell? ⟨gb616,3,none⟩ = some (.string t614):=(blk_cell BK616.out 3).trans rfl;have hfz40_0:=blk_frozen BK616.out 0;have hfz40_1:=blk_frozen BK616.out 1;have hfz40_2:=blk_frozen BK616.out 2;have hfz40_3:=blk_frozen BK616.out 3)|((with_reducible refine gate_callee (f:=12) rfl ?_);refine goesL_ (some 38) rfl rfl Tryd.func12 (by kernel_rfl) rfl #[.agg #[.string t609, .slice Ao14 t619.length co14, .bool t613, .string t614], .int .i64 1] rfl (by (try simp only [List.map_toArray,List.map_cons,List.map_nil]);first|done|(rw [show t619.length = t610.length from (Kd.R_reads' HO_617001.out).1.symm] <;> rfl)|rfl|(simp only [List.length_drop,List.length_take];rfl)) ?_;(with_reducible refine (laws_heldAddr.calls kj4 t609 _ _ t619 t613 t614 1 t620 _ ?side1 ?side2 A27.out).mono ?_);(case side1=>repeat (first|exact (Kd.R_reads' HO_617001.out).2.2|(with_reducible refine Kd.C_alloc ?_ _)|(with_reducible refine Kd.C_drewN ?_ _)|(with_reducible refine Kd.C_drew ?_)));(case side2=>rw [show t619.length = t610.length from (Kd.R_reads' HO_617001.out).1.symm];exact (Kd.R_reads' HO_617001.out).2.1);rintro e w41 ⟨rfl,hb⟩;refine ⟨_,rfl,?_⟩;have n0_:=Aside0.mk (Kd.R_below (by (with_reducible repeat (first|apply Kd.R_alloc|apply Kd.R_drewN|apply Kd.R_drew));exact HO_609001.out) hb);have n1_:=Aside0.mk (Kd.R_below (by (with_reducible repeat (first|apply Kd.R_alloc|apply Kd.R_drewN|apply Kd.R_drew));exact HO_617001.out) hb);have n2_:=Aside0.mk (blk_below (g:=gb608) (o:=.cells #[.string t601, .slice Ao9 t602.length co9, .bool t605, .string t606] 24 (0,0)) (by (with_reducible repeat (first|refine blk_drewN ?_ _|refine blk_drew ?_|refine blk_alloc ?_ _));exact BK608.out) hb);have n3_:=Aside0.mk (blk_below (g:=gb616) (o:=.cells #[.string t609, .slice Ao14 t610.length co14, .bool t613, .string t614] 24 (0,0)) (by (with_reducible repeat (first|refine blk_drewN ?_ _|refine blk_drew ?_|refine blk_alloc ?_ _));exact BK616.out) hb);have n4_:=Aside0.mk (below_step (by repeat (first|(with_reducible first|exact HB.out|apply below_alloc|apply pw_below_drewN|apply below_drew1|refine below_set ?_ GE608.out|refine below_set ?_ GE616.out)|exact HB.out)) hb);clear HO_609001;clear HO_617001;clear BK608;clear BK616;clear HB;have HO_609001:=n0_;have HO_617001:=n1_;have BK608:=n2_;have BK616:=n3_;have HB:=n4_;clear n0_ n1_ n2_ n3_ n4_;(try clear hb);(try clear hb2);(try clear hk);(try clear hi))|((with_reducible refine gate_callee (f:=9) rfl ?_);refine goesL_ (some 46) rfl rfl Tryd.func9 (by kernel_rfl) rfl #[.string a0] rfl (by (try simp only [List.map_toArray,List.map_cons,List.map_nil]);first|done|rfl|(simp only [List.length_drop,List.length_take];rfl)) ?_;(with_reducible refine (impl_AddrRead.calls kj4 a0 t621 t622 t625 t626 t627 _ A35.out).mono ?_);rintro e w42 ⟨v623,rfl,ho0,hb⟩;refine ⟨_,rfl,?_⟩;have n0_:=Aside0.mk (Kd.R_elder' (by (with_reducible repeat (first|apply Kd.R_alloc|apply Kd.R_drewN|apply Kd.R_drew));exact HO_609001.out) (Kd.R_base ho0) hb);have n1_:=Aside0.mk (Kd.R_elder' (by (with_reducible repeat (first|apply Kd.R_alloc|apply Kd.R_drewN|apply Kd.R_drew));exact HO_617001.out) (Kd.R_base ho0) hb);have n2_:=Aside0.mk (Kd.R_lower (Kd.R_new' (Kd.R_new' ho0 (Kd.R_lt (by (with_reducible repeat (first|apply Kd.R_alloc|apply Kd.R_drewN|apply Kd.R_drew));exact HO_609001.out))) (Kd.R_lt (by (with_reducible repeat (first|apply Kd.R_alloc|apply Kd.R_drewN|apply Kd.R_drew));exact HO_617001.out))) (below_size (by repeat (first|(with_reducible first|exact HB.out|apply below_alloc|apply pw_below_drewN|apply below_drew1|refine below_set ?_ GE608.out|refine below_set ?_ GE616.out)|exact HB.out))));have n3_:=Aside0.mk (blk_below (g:=gb608) (o:=.cells #[.string t601, .slice Ao9 t602.length co9, .bool t605, .string t606] 24 (0,0)) (by (with_reducible repeat (first|refine blk_drewN ?_ _|refine blk_drew ?_|refine blk_alloc ?_ _));exact BK608.out) hb);have n4_:=Aside0.mk (blk_below (g:=gb616) (o:=.cells #[.string t609, .slice Ao14 t610.length co14, .bool t613, .string t614] 24 (0,0)) (by (with_reducible repeat (first|refine blk_drewN ?_ _|refine blk_drew ?_|refine blk_alloc ?_ _));exact BK616.out) hb);have n5_:=Aside0.mk (below_step (by repeat (first|(with_reducible first|exact HB.out|apply below_alloc|apply pw_below_drewN|apply below_drew1|refine below_set ?_ GE608.out|refine below_set ?_ GE616.out)|exact HB.out)) hb);clear HO_609001;clear HO_617001;clear BK608;clear BK616;clear HB;have HO_609001:=n0_;have HO_617001:=n1_;have HO624:=n2_;have BK608:=n3_;have BK616:=n4_;have HB:=n5_;clear n0_ n1_ n2_ n3_ n4_ n5_;(try clear hb);(try clear hb2);(try clear hk);(try clear hi);(try clear ho0))|((with_reducible refine gate_dst (N:=9) rfl ?_);refine box_event ?hg (N:=9) ?hd (cs:=#[.string (⟨#[]⟩:ByteArray), .slice none 0 0, .bool false, .string (⟨#[]⟩:ByteArray)]) (t:=24) ?hr ?_;(case hd=>rfl);(case hg=>rfl);(case hr=>first|(go_simp;done)|(go_simp;rfl));intro gb628 hg w43 hbox hb;have n0_:=Aside0.mk (Kd.R_below (by (with_reducible repeat (first|apply Kd.R_alloc|apply Kd.R_drewN|apply Kd.R_drew));exact HO_609001.out) hb);have n1_:=Aside0.mk (Kd.R_below (by (with_reducible repeat (first|apply Kd.R_alloc|apply Kd.R_drewN|apply Kd.R_drew));exact HO_617001.out) hb);have n2_:=Aside0.mk (Kd.R_below (by (with_reducible repeat (first|apply Kd.R_alloc|apply Kd.R_drewN|apply Kd.R_drew));exact HO624.out) hb);have n3_:=Aside0.mk (blk_below (g:=gb608) (o:=.cells #[.string t601, .slice Ao9 t602.length co9, .bool t605, .string t606] 24 (0,0)) (by (with_reducible repeat (first|refine blk_drewN ?_ _|refine blk_drew ?_|refine blk_alloc ?_ _));exact BK608.out) hb);have n4_:=Aside0.mk (blk_below (g:=gb616) (o:=.cells #[.string t609, .slice Ao14 t610.length co14, .bool t613, .string t614] 24 (0,0)) (by (with_reducible repeat (first|refine blk_drewN ?_ _|refine blk_drew ?_|refine blk_alloc ?_ _));exact BK616.out) hb);have n5_:=Aside0.mk (below_step (by repeat (first|(with_reducible first|exact HB.out|apply below_alloc|apply pw_below_drewN|apply below_drew1|refine below_set ?_ GE608.out|refine below_set ?_ GE616.out)|exact HB.out)) hb);have n6_:=Aside0.mk (hbox);have n7_:=Aside0.mk ((by rw [hg];exact (below_size (by repeat (first|(with_reducible first|exact HB.out|apply below_alloc|apply pw_below_drewN|apply below_drew1|refine below_set ?_ GE608.out|refine below_set ?_ GE616.out)|exact HB.out))):w.heap.size ≤ gb628));have n8_:=n7_;have n9_:=Aside0.mk ((by rw [hg];exact Nat.ne_of_lt (blk_lt (g:=gb608) (o:=.cells #[.string t601, .slice Ao9 t602.length co9, .bool t605, .string t606] 24 (0,0)) (by (with_reducible repeat (first|refine blk_drewN ?_ _|refine blk_drew ?_|refine blk_alloc ?_ _));exact BK608.out)):gb608 ≠ gb628));have n10_:=Aside0.mk ((by rw [hg];exact Nat.ne_of_gt (blk_lt (g:=gb608) (o:=.cells #[.string t601, .slice Ao9 t602.length co9, .bool t605, .string t606] 24 (0,0)) (by (with_reducible repeat (first|refine blk_drewN ?_ _|refine blk_drew ?_|refine blk_alloc ?_ _));exact BK608.out)):gb628 ≠ gb608));have n11_:=Aside0.mk ((by rw [hg];exact Nat.ne_of_lt (blk_lt (g:=gb616) (o:=.cells #[.string t609, .slice Ao14 t610.length co14, .bool t613, .string t614] 24 (0,0)) (by (with_reducible repeat (first|refine blk_drewN ?_ _|refine blk_drew ?_|refine blk_alloc ?_ _));exact BK616.out)):gb616 ≠ gb628));have n12_:=Aside0.mk ((by rw [hg];exact Nat.ne_of_gt (blk_lt (g:=gb616) (o:=.cells #[.string t609, .slice Ao14 t610.length co14, .bool t613, .string t614] 24 (0,0)) (by (with_reducible repeat (first|refine blk_drewN ?_ _|refine blk_drew ?_|refine blk_alloc ?_ _));exact BK616.out)):gb628 ≠ gb616));clear HO_609001;clear HO_617001;clear HO624;clear BK608;clear BK616;clear HB;have HO_609001:=n0_;have HO_617001:=n1_;have HO624:=n2_;have BK608:=n3_;have BK616:=n4_;have HB:=n5_;have BK628:=n6_;have GW628:=n7_;have GE628:=n8_;have NB608_628:=n9_;have NB628_608:=n10_;have NB616_628:=n11_;have NB628_616:=n12_;clear n0_ n1_ n2_ n3_ n4_ n5_ n6_ n7_ n8_ n9_ n10_ n11_ n12_;clear hb hbox hg;have hnb44:=NB628_608.out;have hnc44:=NB608_628.out;have hnb45:=NB628_616.out;have hnc45:=NB616_628.out;have hcz46_0:w43.cell? ⟨gb628,0,none⟩ = some (.string (⟨#[]⟩:ByteArray)):=(blk_cell BK628.out 0).trans rfl;have hcz46_1:w43.cell? ⟨gb628,1,none⟩ = some (.slice none 0 0):=(blk_cell BK628.out 1).trans rfl;have hcz46_2:w43.cell? ⟨gb628,2,none⟩ = some (.bool false):=(blk_cell BK628.out 2).trans rfl;have hcz46_3:w43.cell? ⟨gb628,3,none⟩ = some (.string (⟨#[]⟩:ByteArray)):=(blk_cell BK628.out 3).trans rfl;have hfz46_0:=blk_frozen BK628.out 0;have hfz46_1:=blk_frozen BK628.out 1;have hfz46_2:=blk_frozen BK628.out 2;have hfz46_3:=blk_frozen BK628.out 3;obtain ⟨Ao47,co47,eo47⟩:=Kd.R_slice HO624.out;subst eo47))
       (try simp only [Act.put,List.setIfInBounds_toArray,List.set_cons_zero,List.set_cons_succ])
       go_cut [57] (fun v57 wc=>∃ (kq:Nat) (x57_35:Bool),v57 = .bool x57_35 ∧ Aside0 (laws_FnExactAddrRead.j1 kq t618 x57_35 t609 t619 t613 t614 = some r) ∧ Aside0 (kq ≤ kj4) ∧ Aside0 (Kd.R Kd.string 9 wc w.heap.size (fun k_=>some k_ ≠ ((.slice Ao14 t610.length co14):Value).ownBlock ∧ some k_ ≠ ((.slice Ao47 t622.length co47):Value).ownBlock) (.slice Ao9 t602.length co9) t602) ∧ Aside0 (Kd.R Kd.string 9 wc w.heap.size (fun k_=>some k_ ≠ ((.slice Ao9 t602.length co9):Value).ownBlock ∧ some k_ ≠ ((.slice Ao47 t622.length co47):Value).ownBlock) (.slice Ao14 t610.length co14) t619) ∧ Aside0 (Kd.R Kd.string 9 wc w.heap.size (fun k_=>some k_ ≠ ((.slice Ao9 t602.length co9):Value).ownBlock ∧ some k_ ≠ ((.slice Ao14 t610.length co14):Value).ownBlock) (.slice Ao47 t622.length co47) t622) ∧ Aside0 (wc.heap[gb608]? = some (.cells #[.string t601,(.slice Ao9 t602.length co9), .bool t605, .string t606] 24 (0,0))) ∧ Aside0 (wc.heap[gb616]? = some (.cells #[.string t609,(.slice Ao14 t610.length co14), .bool t613, .string t614] 24 (0,0))) ∧ Aside0 (wc.heap[gb628]? = some (.cells #[.string t621,(.slice Ao47 t622.length co47), .bool t625, .string t626] 24 (0,0))) ∧ Aside0 (Below w.heap.size w wc))
       case first =>
        have H:=HC36.out
        clear HC36
        replace H:=Option.bind_eq_some_iff.mp H
        obtain ⟨t629,A480,H⟩:=H
        replace H:(if t629 = true then (laws_FnExactAddrRead.j1 kj4 t618 (t627 != t607) t609 t619 t613 t614) else (laws_FnExactAddrRead.j1 kj4 t618 true t609 t619 t613 t614)) = some r:=H
        have A48:=Aside0.mk A480
        clear A480
        by_cases c49:t629 = true
        ·subst c49
         have H1:(laws_FnExactAddrRead.j1 kj4 t618 (t627 != t607) t609 t619 t613 t614) = some r:=by rw [if_pos rfl] at H;exact H
         clear H
         have H:=H1
         clear H1
         have H':=Aside0.mk H
         clear H
         have hnb50:=NB628_608.out
         have hnc50:=NB608_628.out
         have hnb51:=NB628_616.out
         have hnc51:=NB616_628.out
         have hcz52_0:w43.cell? ⟨gb628,0,none⟩ = some (.string (⟨#[]⟩:ByteArray)):=(blk_cell BK628.out 0).trans rfl
         have hcz52_1:w43.cell? ⟨gb628,1,none⟩ = some (.slice none 0 0):=(blk_cell BK628.out 1).trans rfl
         have hcz52_2:w43.cell? ⟨gb628,2,none⟩ = some (.bool false):=(blk_cell BK628.out 2).trans rfl
         have hcz52_3:w43.cell? ⟨gb628,3,none⟩ = some (.string (⟨#[]⟩:ByteArray)):=(blk_cell BK628.out 3).trans rfl
         have hfz52_0:=blk_frozen BK628.out 0
         have hfz52_1:=blk_frozen BK628.out 1
         have hfz52_2:=blk_frozen BK628.out 2
         have hfz52_3:=blk_frozen BK628.out 3
         have hnb53:=NB608_616.out
         have hnc53:=NB616_608.out
         have hcz54_0:w43.cell? ⟨gb608,0,none⟩ = some (.string t601):=(blk_cell BK608.out 0).trans rfl
         have hcz54_1:w43.cell? ⟨gb608,1,none⟩ = some (.slice Ao9 t602.length co9):=(blk_cell BK608.out 1).trans rfl
         have hcz54_2:w43.cell? ⟨gb608,2,none⟩ = some (.bool t605):=(blk_cell BK608.out 2).trans rfl
         have hcz54_3:w43.cell? ⟨gb608,3,none⟩ = some (.string t606):=(blk_cell BK608.out 3).trans rfl
         have hfz54_0:=blk_frozen BK608.out 0
         have hfz54_1:=blk_frozen BK608.out 1
         have hfz54_2:=blk_frozen BK608.out 2
         have hfz54_3:=blk_frozen BK608.out 3
         go_wp2_with (first|((with_reducible refine gate_callee (f:=10) rfl ?_);refine goesL_ (some 51) rfl rfl Tryd.func10 (by kernel_rfl) rfl #[.agg #[.string t621, .slice Ao47 t622.length co47, .bool t625, .string t626], .agg #[.string t601, .slice Ao9 t602.length co9, .bool t605, .string t606]] rfl (by (try simp only [List.map_toArray,List.map_cons,List.map_nil]);first|done|rfl|(simp only [List.length_drop,List.length_take];rfl)) ?_;(with_reducible refine (laws_eqAddr.calls kj4 t621 _ _ t622 t625 t626 t601 _ _ t602 t605 t606 true _ ?side1 ?side2 ?side3 ?side4 A48.out).mono ?_);(case side1=>refine (Kd.R_reads' (e:=9) (base:=w.heap.size) (ok:=fun k_=>((True ∧ some k_ ≠ (.slice Ao9 t602.length co9:Value).ownBlock) ∧ some k_ ≠ (.slice Ao14 t610.length co14:Value).ownBlock)) (n:=t622.length) (c:=co47) ?_).2.2;exact (by (with_reducible repeat (first|apply Kd.R_alloc|apply Kd.R_drewN|apply Kd.R_drew));exact (Kd.R_mono (Kd.R_far (p:=⟨gb628,3,none⟩) (Kd.R_far (p:=⟨gb628,2,none⟩) (Kd.R_far (p:=⟨gb628,1,none⟩) (Kd.R_far (p:=⟨gb628,0,none⟩) (Kd.R_types HO624.out BK628.out (by decide)) (fun _ hk=>hk.2) (.string t621)) (fun _ hk=>hk.2) (.slice Ao47 t622.length co47)) (fun _ hk=>hk.2) (.bool t625)) (fun _ hk=>hk.2) (.string t626)) (fun _ h_=>h_.1))));(case side2=>exact (Kd.R_reads' HO624.out).2.1);(case side3=>refine (Kd.R_reads' (e:=9) (base:=w.heap.size) (ok:=fun k_=>(some k_ ≠ (.slice Ao14 t610.length co14:Value).ownBlock ∧ some k_ ≠ (.slice Ao47 t622.length co47:Value).ownBlock)) (n:=t602.length) (c:=co9) ?_).2.2;exact (by (with_reducible repeat (first|apply Kd.R_alloc|apply Kd.R_drewN|apply Kd.R_drew));exact (Kd.R_mono (Kd.R_far (p:=⟨gb628,3,none⟩) (Kd.R_far (p:=⟨gb628,2,none⟩) (Kd.R_far (p:=⟨gb628,1,none⟩) (Kd.R_far (p:=⟨gb628,0,none⟩) (Kd.R_types HO_609001.out BK628.out (by decide)) (fun _ hk=>hk.2) (.string t621)) (fun _ hk=>hk.2) (.slice Ao47 t622.length co47)) (fun _ hk=>hk.2) (.bool t625)) (fun _ hk=>hk.2) (.string t626)) (fun _ h_=>h_.1))));(case side4=>exact (Kd.R_reads' HO_609001.out).2.1);rintro e w55 ⟨rfl,hb⟩;refine ⟨_,rfl,?_⟩;have n0_:=Aside0.mk (Kd.R_below (by (with_reducible repeat (first|apply Kd.R_alloc|apply Kd.R_drewN|apply Kd.R_drew));exact (Kd.R_mono (Kd.R_far (p:=⟨gb628,3,none⟩) (Kd.R_far (p:=⟨gb628,2,none⟩) (Kd.R_far (p:=⟨gb628,1,none⟩) (Kd.R_far (p:=⟨gb628,0,none⟩) (Kd.R_types HO_609001.out BK628.out (by decide)) (fun _ hk=>hk.2) (.string t621)) (fun _ hk=>hk.2) (.slice Ao47 t622.length co47)) (fun _ hk=>hk.2) (.bool t625)) (fun _ hk=>hk.2) (.string t626)) (fun _ h_=>h_.1))) hb);have n1_:=Aside0.mk (Kd.R_below (by (with_reducible repeat (first|apply Kd.R_alloc|apply Kd.R_drewN|apply Kd.R_drew));exact (Kd.R_mono (Kd.R_far (p:=⟨gb628,3,none⟩) (Kd.R_far (p:=⟨gb628,2,none⟩) (Kd.R_far (p:=⟨gb628,1,none⟩) (Kd.R_far (p:=⟨gb628,0,none⟩) (Kd.R_types HO_617001.out BK628.out (by decide)) (fun _ hk=>hk.2) (.string t621)) (fun _ hk=>hk.2) (.slice Ao47 t622.length co47)) (fun _ hk=>hk.2) (.bool t625)) (fun _ hk=>hk.2) (.string t626)) (fun _ h_=>h_.1))) hb);have n2_:=Aside0.mk (Kd.R_below (by (with_reducible repeat (first|apply Kd.R_alloc|apply Kd.R_drewN|apply Kd.R_drew));exact (Kd.R_mono (Kd.R_far (p:=⟨gb628,3,none⟩) (Kd.R_far (p:=⟨gb628,2,none⟩) (Kd.R_far (p:=⟨gb628,1,none⟩) (Kd.R_far (p:=⟨gb628,0,none⟩) (Kd.R_types HO624.out BK628.out (by decide)) (fun _ hk=>hk.2) (.string t621)) (fun _ hk=>hk.2) (.slice Ao47 t622.length co47)) (fun _ hk=>hk.2) (.bool t625)) (fun _ hk=>hk.2) (.string t626)) (fun _ h_=>h_.1))) hb);have n3_:=Aside0.mk (blk_below (g:=gb608) (o:=.cells #[.string t601, .slice Ao9 t602.length co9, .bool t605, .string t606] 24 (0,0)) (by (with_reducible repeat (first|refine blk_drewN ?_ _|refine blk_drew ?_|refine blk_alloc ?_ _));refine blk_far ?_ NB608_628.out _;(with_reducible repeat (first|refine blk_drewN ?_ _|refine blk_drew ?_|refine blk_alloc ?_ _));refine blk_far ?_ NB608_628.out _;(with_reducible repeat (first|refine blk_drewN ?_ _|refine blk_drew ?_|refine blk_alloc ?_ _));refine blk_far ?_ NB608_628.out _;(with_reducible repeat (first|refine blk_drewN ?_ _|refine blk_drew ?_|refine blk_alloc ?_ _));refine blk_far ?_ NB608_628.out _;(with_reducible repeat (first|refine blk_drewN ?_ _|refine blk_drew ?_|refine blk_alloc ?_ _));exact BK608.out) hb);have n4_:=Aside0.mk (blk_below (g:=gb616) (o:=.cells #[.string t609, .slice Ao14 t610.length co14, .bool t613, .string t614] 24 (0,0)) (by (with_reducible repeat (first|refine blk_drewN ?_ _|refine blk_drew ?_|refine blk_alloc ?_ _));refine blk_far ?_ NB616_628.out _;(with_reducible repeat (first|refine blk_drewN ?_ _|refine blk_drew ?_|refine blk_alloc ?_ _));refine blk_far ?_ NB616_628.out _;(with_reducible repeat (first|refine blk_drewN ?_ _|refine blk_drew ?_|refine blk_alloc ?_ _));refine blk_far ?_ NB616_628.out _;(with_reducible repeat (first|refine blk_drewN ?_ _|refine blk_drew ?_|refine blk_alloc ?_ _));refine blk_far ?_ NB616_628.out _;(with_reducible repeat (first|refine blk_drewN ?_ _|refine blk_drew ?_|refine blk_alloc ?_ _));exact BK616.out) hb);have n5_:=Aside0.mk (blk_below (g:=gb628) (o:=.cells #[.string t621, .slice Ao47 t622.length co47, .bool t625, .string t626] 24 (0,0)) (by (with_reducible repeat (first|refine blk_drewN ?_ _|refine blk_drew ?_|refine blk_alloc ?_ _));refine blk_put (cs:=#[.string t621, .slice Ao47 t622.length co47, .bool t625, .string (⟨#[]⟩:ByteArray)]) ?_ 3 _ rfl;(with_reducible repeat (first|refine blk_drewN ?_ _|refine blk_drew ?_|refine blk_alloc ?_ _));refine blk_put (cs:=#[.string t621, .slice Ao47 t622.length co47, .bool false, .string (⟨#[]⟩:ByteArray)]) ?_ 2 _ rfl;(with_reducible repeat (first|refine blk_drewN ?_ _|refine blk_drew ?_|refine blk_alloc ?_ _));refine blk_put (cs:=#[.string t621, .slice none 0 0, .bool false, .string (⟨#[]⟩:ByteArray)]) ?_ 1 _ rfl;(with_reducible repeat (first|refine blk_drewN ?_ _|refine blk_drew ?_|refine blk_alloc ?_ _));refine blk_put (cs:=#[.string (⟨#[]⟩:ByteArray), .slice none 0 0, .bool false, .string (⟨#[]⟩:ByteArray)]) ?_ 0 _ rfl;(with_reducible repeat (first|refine blk_drewN ?_ _|refine blk_drew ?_|refine blk_alloc ?_ _));exact BK628.out) hb);have n6_:=Aside0.mk (below_step (by repeat (first|(with_reducible first|exact HB.out|apply below_alloc|apply pw_below_drewN|apply below_drew1|refine below_set ?_ GE608.out|refine below_set ?_ GE616.out|refine below_set ?_ GE628.out)|exact HB.out)) hb);clear HO_609001;clear HO_617001;clear HO624;clear BK608;clear BK616;clear BK628;clear HB;have HO_609001:=n0_;have HO_617001:=n1_;have HO624:=n2_;have BK608:=n3_;have BK616:=n4_;have BK628:=n5_;have HB:=n6_;clear n0_ n1_ n2_ n3_ n4_ n5_ n6_;(try clear hb);(try clear hb2);(try clear hk);(try clear hi)))
         go_meet
         case rel=>exact ⟨_,((t627 != t607)),(by first|rfl|(simp;done)|(simp only [i64_w,i32_w];done)|(simp only [i64_w,i32_w];rfl)|(simp [*];done)|(simp [emp_bne,emp_beq];done)),H',⟨by have:=HJ4.out;first|omega|exact Nat.le_refl _⟩,⟨by (with_reducible repeat (first|apply Kd.R_alloc|apply Kd.R_drewN|apply Kd.R_drew));exact HO_609001.out⟩,⟨by (with_reducible repeat (first|apply Kd.R_alloc|apply Kd.R_drewN|apply Kd.R_drew));exact HO_617001.out⟩,⟨by (with_reducible repeat (first|apply Kd.R_alloc|apply Kd.R_drewN|apply Kd.R_drew));exact Kd.R_mono HO624.out (fun _ hk=>⟨hk.1.2,hk.2⟩)⟩,⟨by (with_reducible repeat (first|refine blk_drewN ?_ _|refine blk_drew ?_|refine blk_alloc ?_ _));exact BK608.out⟩,⟨by (with_reducible repeat (first|refine blk_drewN ?_ _|refine blk_drew ?_|refine blk_alloc ?_ _));exact BK616.out⟩,⟨by (with_reducible repeat (first|refine blk_drewN ?_ _|refine blk_drew ?_|refine blk_alloc ?_ _));exact BK628.out⟩,⟨by repeat (first|(with_reducible first|exact HB.out|apply below_alloc|apply pw_below_drewN|apply below_drew1|refine below_set ?_ GE608.out|refine below_set ?_ GE616.out|refine below_set ?_ GE628.out)|exact HB.out)⟩⟩
        ·replace c49:=Bool.eq_false_iff.mpr c49
         subst c49
         have H1:(laws_FnExactAddrRead.j1 kj4 t618 true t609 t619 t613 t614) = some r:=by rw [if_neg (show ¬ (false = true) by decide)] at H;exact H
         clear H
         have H:=H1
         clear H1
         have H':=Aside0.mk H
         clear H
         have hnb56:=NB628_608.out
         have hnc56:=NB608_628.out
         have hnb57:=NB628_616.out
         have hnc57:=NB616_628.out
         have hcz58_0:w43.cell? ⟨gb628,0,none⟩ = some (.string (⟨#[]⟩:ByteArray)):=(blk_cell BK628.out 0).trans rfl
         have hcz58_1:w43.cell? ⟨gb628,1,none⟩ = some (.slice none 0 0):=(blk_cell BK628.out 1).trans rfl
         have hcz58_2:w43.cell? ⟨gb628,2,none⟩ = some (.bool false):=(blk_cell BK628.out 2).trans rfl
         have hcz58_3:w43.cell? ⟨gb628,3,none⟩ = some (.string (⟨#[]⟩:ByteArray)):=(blk_cell BK628.out 3).trans rfl
         have hfz58_0:=blk_frozen BK628.out 0
         have hfz58_1:=blk_frozen BK628.out 1
         have hfz58_2:=blk_frozen BK628.out 2
         have hfz58_3:=blk_frozen BK628.out 3
         have hnb59:=NB608_616.out
         have hnc59:=NB616_608.out
         have hcz60_0:w43.cell? ⟨gb608,0,none⟩ = some (.string t601):=(blk_cell BK608.out 0).trans rfl
         have hcz60_1:w43.cell? ⟨gb608,1,none⟩ = some (.slice Ao9 t602.length co9):=(blk_cell BK608.out 1).trans rfl
         have hcz60_2:w43.cell? ⟨gb608,2,none⟩ = some (.bool t605):=(blk_cell BK608.out 2).trans rfl
         have hcz60_3:w43.cell? ⟨gb608,3,none⟩ = some (.string t606):=(blk_cell BK608.out 3).trans rfl
         have hfz60_0:=blk_frozen BK608.out 0
         have hfz60_1:=blk_frozen BK608.out 1
         have hfz60_2:=blk_frozen BK608.out 2
         have hfz60_3:=blk_frozen BK608.out 3
         go_wp2_with (first|((with_reducible refine gate_callee (f:=10) rfl ?_);refine goesL_ (some 51) rfl rfl Tryd.func10 (by kernel_rfl) rfl #[.agg #[.string t621, .slice Ao47 t622.length co47, .bool t625, .string t626], .agg #[.string t601, .slice Ao9 t602.length co9, .bool t605, .string t606]] rfl (by (try simp only [List.map_toArray,List.map_cons,List.map_nil]);first|done|rfl|(simp only [List.length_drop,List.length_take];rfl)) ?_;(with_reducible refine (laws_eqAddr.calls kj4 t621 _ _ t622 t625 t626 t601 _ _ t602 t605 t606 false _ ?side1 ?side2 ?side3 ?side4 A48.out).mono ?_);(case side1=>refine (Kd.R_reads' (e:=9) (base:=w.heap.size) (ok:=fun k_=>((True ∧ some k_ ≠ (.slice Ao9 t602.length co9:Value).ownBlock) ∧ some k_ ≠ (.slice Ao14 t610.length co14:Value).ownBlock)) (n:=t622.length) (c:=co47) ?_).2.2;exact (by (with_reducible repeat (first|apply Kd.R_alloc|apply Kd.R_drewN|apply Kd.R_drew));exact (Kd.R_mono (Kd.R_far (p:=⟨gb628,3,none⟩) (Kd.R_far (p:=⟨gb628,2,none⟩) (Kd.R_far (p:=⟨gb628,1,none⟩) (Kd.R_far (p:=⟨gb628,0,none⟩) (Kd.R_types HO624.out BK628.out (by decide)) (fun _ hk=>hk.2) (.string t621)) (fun _ hk=>hk.2) (.slice Ao47 t622.length co47)) (fun _ hk=>hk.2) (.bool t625)) (fun _ hk=>hk.2) (.string t626)) (fun _ h_=>h_.1))));(case side2=>exact (Kd.R_reads' HO624.out).2.1);(case side3=>refine (Kd.R_reads' (e:=9) (base:=w.heap.size) (ok:=fun k_=>(some k_ ≠ (.slice Ao14 t610.length co14:Value).ownBlock ∧ some k_ ≠ (.slice Ao47 t622.length co47:Value).ownBlock)) (n:=t602.length) (c:=co9) ?_).2.2;exact (by (with_reducible repeat (first|apply Kd.R_alloc|apply Kd.R_drewN|apply Kd.R_drew));exact (Kd.R_mono (Kd.R_far (p:=⟨gb628,3,none⟩) (Kd.R_far (p:=⟨gb628,2,none⟩) (Kd.R_far (p:=⟨gb628,1,none⟩) (Kd.R_far (p:=⟨gb628,0,none⟩) (Kd.R_types HO_609001.out BK628.out (by decide)) (fun _ hk=>hk.2) (.string t621)) (fun _ hk=>hk.2) (.slice Ao47 t622.length co47)) (fun _ hk=>hk.2) (.bool t625)) (fun _ hk=>hk.2) (.string t626)) (fun _ h_=>h_.1))));(case side4=>exact (Kd.R_reads' HO_609001.out).2.1);rintro e w61 ⟨rfl,hb⟩;refine ⟨_,rfl,?_⟩;have n0_:=Aside0.mk (Kd.R_below (by (with_reducible repeat (first|apply Kd.R_alloc|apply Kd.R_drewN|apply Kd.R_drew));exact (Kd.R_mono (Kd.R_far (p:=⟨gb628,3,none⟩) (Kd.R_far (p:=⟨gb628,2,none⟩) (Kd.R_far (p:=⟨gb628,1,none⟩) (Kd.R_far (p:=⟨gb628,0,none⟩) (Kd.R_types HO_609001.out BK628.out (by decide)) (fun _ hk=>hk.2) (.string t621)) (fun _ hk=>hk.2) (.slice Ao47 t622.length co47)) (fun _ hk=>hk.2) (.bool t625)) (fun _ hk=>hk.2) (.string t626)) (fun _ h_=>h_.1))) hb);have n1_:=Aside0.mk (Kd.R_below (by (with_reducible repeat (first|apply Kd.R_alloc|apply Kd.R_drewN|apply Kd.R_drew));exact (Kd.R_mono (Kd.R_far (p:=⟨gb628,3,none⟩) (Kd.R_far (p:=⟨gb628,2,none⟩) (Kd.R_far (p:=⟨gb628,1,none⟩) (Kd.R_far (p:=⟨gb628,0,none⟩) (Kd.R_types HO_617001.out BK628.out (by decide)) (fun _ hk=>hk.2) (.string t621)) (fun _ hk=>hk.2) (.slice Ao47 t622.length co47)) (fun _ hk=>hk.2) (.bool t625)) (fun _ hk=>hk.2) (.string t626)) (fun _ h_=>h_.1))) hb);have n2_:=Aside0.mk (Kd.R_below (by (with_reducible repeat (first|apply Kd.R_alloc|apply Kd.R_drewN|apply Kd.R_drew));exact (Kd.R_mono (Kd.R_far (p:=⟨gb628,3,none⟩) (Kd.R_far (p:=⟨gb628,2,none⟩) (Kd.R_far (p:=⟨gb628,1,none⟩) (Kd.R_far (p:=⟨gb628,0,none⟩) (Kd.R_types HO624.out BK628.out (by decide)) (fun _ hk=>hk.2) (.string t621)) (fun _ hk=>hk.2) (.slice Ao47 t622.length co47)) (fun _ hk=>hk.2) (.bool t625)) (fun _ hk=>hk.2) (.string t626)) (fun _ h_=>h_.1))) hb);have n3_:=Aside0.mk (blk_below (g:=gb608) (o:=.cells #[.string t601, .slice Ao9 t602.length co9, .bool t605, .string t606] 24 (0,0)) (by (with_reducible repeat (first|refine blk_drewN ?_ _|refine blk_drew ?_|refine blk_alloc ?_ _));refine blk_far ?_ NB608_628.out _;(with_reducible repeat (first|refine blk_drewN ?_ _|refine blk_drew ?_|refine blk_alloc ?_ _));refine blk_far ?_ NB608_628.out _;(with_reducible repeat (first|refine blk_drewN ?_ _|refine blk_drew ?_|refine blk_alloc ?_ _));refine blk_far ?_ NB608_628.out _;(with_reducible repeat (first|refine blk_drewN ?_ _|refine blk_drew ?_|refine blk_alloc ?_ _));refine blk_far ?_ NB608_628.out _;(with_reducible repeat (first|refine blk_drewN ?_ _|refine blk_drew ?_|refine blk_alloc ?_ _));exact BK608.out) hb);have n4_:=Aside0.mk (blk_below (g:=gb616) (o:=.cells #[.string t609, .slice Ao14 t610.length co14, .bool t613, .string t614] 24 (0,0)) (by (with_reducible repeat (first|refine blk_drewN ?_ _|refine blk_drew ?_|refine blk_alloc ?_ _));refine blk_far ?_ NB616_628.out _;(with_reducible repeat (first|refine blk_drewN ?_ _|refine blk_drew ?_|refine blk_alloc ?_ _));refine blk_far ?_ NB616_628.out _;(with_reducible repeat (first|refine blk_drewN ?_ _|refine blk_drew ?_|refine blk_alloc ?_ _));refine blk_far ?_ NB616_628.out _;(with_reducible repeat (first|refine blk_drewN ?_ _|refine blk_drew ?_|refine blk_alloc ?_ _));refine blk_far ?_ NB616_628.out _;(with_reducible repeat (first|refine blk_drewN ?_ _|refine blk_drew ?_|refine blk_alloc ?_ _));exact BK616.out) hb);have n5_:=Aside0.mk (blk_below (g:=gb628) (o:=.cells #[.string t621, .slice Ao47 t622.length co47, .bool t625, .string t626] 24 (0,0)) (by (with_reducible repeat (first|refine blk_drewN ?_ _|refine blk_drew ?_|refine blk_alloc ?_ _));refine blk_put (cs:=#[.string t621, .slice Ao47 t622.length co47, .bool t625, .string (⟨#[]⟩:ByteArray)]) ?_ 3 _ rfl;(with_reducible repeat (first|refine blk_drewN ?_ _|refine blk_drew ?_|refine blk_alloc ?_ _));refine blk_put (cs:=#[.string t621, .slice Ao47 t622.length co47, .bool false, .string (⟨#[]⟩:ByteArray)]) ?_ 2 _ rfl;(with_reducible repeat (first|refine blk_drewN ?_ _|refine blk_drew ?_|refine blk_alloc ?_ _));refine blk_put (cs:=#[.string t621, .slice none 0 0, .bool false, .string (⟨#[]⟩:ByteArray)]) ?_ 1 _ rfl;(with_reducible repeat (first|refine blk_drewN ?_ _|refine blk_drew ?_|refine blk_alloc ?_ _));refine blk_put (cs:=#[.string (⟨#[]⟩:ByteArray), .slice none 0 0, .bool false, .string (⟨#[]⟩:ByteArray)]) ?_ 0 _ rfl;(with_reducible repeat (first|refine blk_drewN ?_ _|refine blk_drew ?_|refine blk_alloc ?_ _));exact BK628.out) hb);have n6_:=Aside0.mk (below_step (by repeat (first|(with_reducible first|exact HB.out|apply below_alloc|apply pw_below_drewN|apply below_drew1|refine below_set ?_ GE608.out|refine below_set ?_ GE616.out|refine below_set ?_ GE628.out)|exact HB.out)) hb);clear HO_609001;clear HO_617001;clear HO624;clear BK608;clear BK616;clear BK628;clear HB;have HO_609001:=n0_;have HO_617001:=n1_;have HO624:=n2_;have BK608:=n3_;have BK616:=n4_;have BK628:=n5_;have HB:=n6_;clear n0_ n1_ n2_ n3_ n4_ n5_ n6_;(try clear hb);(try clear hb2);(try clear hk);(try clear hi)))
         go_meet
         case rel=>exact ⟨_,(true),(by first|rfl|(simp;done)|(simp only [i64_w,i32_w];done)|(simp only [i64_w,i32_w];rfl)|(simp [*];done)|(simp [emp_bne,emp_beq];done)),H',⟨by have:=HJ4.out;first|omega|exact Nat.le_refl _⟩,⟨by (with_reducible repeat (first|apply Kd.R_alloc|apply Kd.R_drewN|apply Kd.R_drew));exact HO_609001.out⟩,⟨by (with_reducible repeat (first|apply Kd.R_alloc|apply Kd.R_drewN|apply Kd.R_drew));exact HO_617001.out⟩,⟨by (with_reducible repeat (first|apply Kd.R_alloc|apply Kd.R_drewN|apply Kd.R_drew));exact Kd.R_mono HO624.out (fun _ hk=>⟨hk.1.2,hk.2⟩)⟩,⟨by (with_reducible repeat (first|refine blk_drewN ?_ _|refine blk_drew ?_|refine blk_alloc ?_ _));exact BK608.out⟩,⟨by (with_reducible repeat (first|refine blk_drewN ?_ _|refine blk_drew ?_|refine blk_alloc ?_ _));exact BK616.out⟩,⟨by (with_reducible repeat (first|refine blk_drewN ?_ _|refine blk_drew ?_|refine blk_alloc ?_ _));exact BK628.out⟩,⟨by repeat (first|(with_reducible first|exact HB.out|apply below_alloc|apply pw_below_drewN|apply below_drew1|refine below_set ?_ GE608.out|refine below_set ?_ GE616.out|refine below_set ?_ GE628.out)|exact HB.out)⟩⟩
       case rest =>
        clear HC36
        try clear c1
        try clear c2
        try clear c2b0
        try clear c2b1
        try clear p2
        try clear c3
        try clear c4
        try clear c5
        try clear c8
        try clear c9
        try clear c10
        try clear c11
        try clear c12
        try clear c16
        try clear c17
        try clear c21
        try clear c25
        try clear c28
        try clear c28b0
        try clear c29
        try clear c34
        try clear c34b0
        try clear c34b1
        try clear c37
        try clear c44
        try clear c45
        try clear c49
        try clear c50
        try clear c51
        try clear c53
        try clear c56
        try clear c57
        try clear c59
        try clear hcz13_0
        try clear hcz13_1
        try clear hcz13_2
        try clear hcz13_3
        try clear hcz18_0
        try clear hcz18_1
        try clear hcz18_2
        try clear hcz18_3
        try clear hcz19_0
        try clear hcz19_1
        try clear hcz19_2
        try clear hcz19_3
        try clear hcz22_0
        try clear hcz22_1
        try clear hcz22_2
        try clear hcz22_3
        try clear hcz23_0
        try clear hcz23_1
        try clear hcz23_2
        try clear hcz23_3
        try clear hcz30_0
        try clear hcz30_1
        try clear hcz30_2
        try clear hcz30_3
        try clear hcz32_0
        try clear hcz32_1
        try clear hcz32_2
        try clear hcz32_3
        try clear hcz38_0
        try clear hcz38_1
        try clear hcz38_2
        try clear hcz38_3
        try clear hcz40_0
        try clear hcz40_1
        try clear hcz40_2
        try clear hcz40_3
        try clear hcz46_0
        try clear hcz46_1
        try clear hcz46_2
        try clear hcz46_3
        try clear hcz52_0
        try clear hcz52_1
        try clear hcz52_2
        try clear hcz52_3
        try clear hcz54_0
        try clear hcz54_1
        try clear hcz54_2
        try clear hcz54_3
        try clear hcz58_0
        try clear hcz58_1
        try clear hcz58_2
        try clear hcz58_3
        try clear hcz60_0
        try clear hcz60_1
        try clear hcz60_2
        try clear hcz60_3
        try clear hcz8_0
        try clear hcz8_1
        try clear hcz8_2
        try clear hcz8_3
        try clear hfz13_0
        try clear hfz13_1
        try clear hfz13_2
        try clear hfz13_3
        try clear hfz18_0
        try clear hfz18_1
        try clear hfz18_2
        try clear hfz18_3
        try clear hfz19_0
        try clear hfz19_1
        try clear hfz19_2
        try clear hfz19_3
        try clear hfz22_0
        try clear hfz22_1
        try clear hfz22_2
        try clear hfz22_3
        try clear hfz23_0
        try clear hfz23_1
        try clear hfz23_2
        try clear hfz23_3
        try clear hfz30_0
        try clear hfz30_1
        try clear hfz30_2
        try clear hfz30_3
        try clear hfz32_0
        try clear hfz32_1
        try clear hfz32_2
        try clear hfz32_3
        try clear hfz38_0
        try clear hfz38_1
        try clear hfz38_2
        try clear hfz38_3
        try clear hfz40_0
        try clear hfz40_1
        try clear hfz40_2
        try clear hfz40_3
        try clear hfz46_0
        try clear hfz46_1
        try clear hfz46_2
        try clear hfz46_3
        try clear hfz52_0
        try clear hfz52_1
        try clear hfz52_2
        try clear hfz52_3
        try clear hfz54_0
        try clear hfz54_1
        try clear hfz54_2
        try clear hfz54_3
        try clear hfz58_0
        try clear hfz58_1
        try clear hfz58_2
        try clear hfz58_3
        try clear hfz60_0
        try clear hfz60_1
        try clear hfz60_2
        try clear hfz60_3
        try clear hfz8_0
        try clear hfz8_1
        try clear hfz8_2
        try clear hfz8_3
        try clear p2
        obtain ⟨kq,x57_35,rfl,HA,HJ35,HO_609001,HO_617001,HO_629001,BK608,BK616,BK628,HB⟩:=hcut
        have hl617001_35:=(Kd.R_reads' HO_617001.out).1
        rw [hl617001_35] at HO_617001
        (try simp only [hl617001_35])
        (try simp only [hl617001_35] at BK608)
        (try simp only [hl617001_35] at BK616)
        (try simp only [hl617001_35] at BK628)
        (try simp only [hl617001_35] at HO_609001)
        (try simp only [hl617001_35] at HO_629001)
        cases kq with
        | zero=>exact absurd HA.out (by simp [laws_FnExactAddrRead.j1])
        | succ kj35 =>
         have H:=HA.out
         clear HA
         simp only [laws_FnExactAddrRead.j1] at H
         by_cases c62:x57_35 = true
         ·subst c62
          have H1:(some false) = some r:=by rw [if_pos rfl] at H;exact H
          clear H
          have H:=H1
          clear H1
          obtain rfl:=Option.some.inj H
          go_wp2
          go_ret
          exact ⟨by first|rfl|(simp <;> rfl)|(simp [*] <;> rfl),by repeat (first|(with_reducible first|exact HB.out|apply below_alloc|apply pw_below_drewN|apply below_drew1|refine below_set ?_ GE608.out|refine below_set ?_ GE616.out|refine below_set ?_ GE628.out)|exact HB.out)⟩
         ·replace c62:=Bool.eq_false_iff.mpr c62
          subst c62
          have H1:((laws_heldAddr.f kj35 t609 t619 t613 t614 1).bind fun t630=>(if t630 < 0 then (some false) else (if t630 = t618 then (some true) else (some false)))) = some r:=by rw [if_neg (show ¬ (false = true) by decide)] at H;exact H
          clear H
          have H:=H1
          clear H1
          replace H:=Option.bind_eq_some_iff.mp H
          obtain ⟨t630,A630,H⟩:=H
          replace H:(if t630 < 0 then (some false) else (if t630 = t618 then (some true) else (some false))) = some r:=H
          have A63:=Aside0.mk A630
          clear A630
          by_cases c64:t630 < 0
          ·rw [if_pos c64] at H
           have c64b0:decide (t630 < 0) = true:=decide_eq_true c64
           clear c64
           obtain rfl:=Option.some.inj H
           have hnb65:=NB616_608.out
           have hnc65:=NB608_616.out
           have hnb66:=NB616_628.out
           have hnc66:=NB628_616.out
           have hcz67_0:wc.cell? ⟨gb616,0,none⟩ = some (.string t609):=(blk_cell BK616.out 0).trans rfl
           have hcz67_1:wc.cell? ⟨gb616,1,none⟩ = some (.slice Ao14 t619.length co14):=(blk_cell BK616.out 1).trans rfl
           have hcz67_2:wc.cell? ⟨gb616,2,none⟩ = some (.bool t613):=(blk_cell BK616.out 2).trans rfl
           have hcz67_3:wc.cell? ⟨gb616,3,none⟩ = some (.string t614):=(blk_cell BK616.out 3).trans rfl
           have hfz67_0:=blk_frozen BK616.out 0
           have hfz67_1:=blk_frozen BK616.out 1
           have hfz67_2:=blk_frozen BK616.out 2
           have hfz67_3:=blk_frozen BK616.out 3
           go_wp2_with (first|((with_reducible refine gate_callee (f:=12) rfl ?_);refine goesL_ (some 60) rfl rfl Tryd.func12 (by kernel_rfl) rfl #[.agg #[.string t609, .slice Ao14 t619.length co14, .bool t613, .string t614], .int .i64 1] rfl (by (try simp only [List.map_toArray,List.map_cons,List.map_nil]);first|done|rfl|(simp only [List.length_drop,List.length_take];rfl)) ?_;(with_reducible refine (laws_heldAddr.calls kj35 t609 _ _ t619 t613 t614 1 t630 _ ?side1 ?side2 A63.out).mono ?_);(case side1=>repeat (first|exact (Kd.R_reads' HO_617001.out).2.2|(with_reducible refine Kd.C_alloc ?_ _)|(with_reducible refine Kd.C_drewN ?_ _)|(with_reducible refine Kd.C_drew ?_)));(case side2=>exact (Kd.R_reads' HO_617001.out).2.1);rintro e w68 ⟨rfl,hb⟩;refine ⟨_,rfl,?_⟩;have n0_:=Aside0.mk (Kd.R_below (by (with_reducible repeat (first|apply Kd.R_alloc|apply Kd.R_drewN|apply Kd.R_drew));exact HO_609001.out) hb);have n1_:=Aside0.mk (Kd.R_below (by (with_reducible repeat (first|apply Kd.R_alloc|apply Kd.R_drewN|apply Kd.R_drew));exact HO_617001.out) hb);have n2_:=Aside0.mk (Kd.R_below (by (with_reducible repeat (first|apply Kd.R_alloc|apply Kd.R_drewN|apply Kd.R_drew));exact HO_629001.out) hb);have n3_:=Aside0.mk (blk_below (g:=gb608) (o:=.cells #[.string t601, .slice Ao9 t602.length co9, .bool t605, .string t606] 24 (0,0)) (by (with_reducible repeat (first|refine blk_drewN ?_ _|refine blk_drew ?_|refine blk_alloc ?_ _));exact BK608.out) hb);have n4_:=Aside0.mk (blk_below (g:=gb616) (o:=.cells #[.string t609, .slice Ao14 t619.length co14, .bool t613, .string t614] 24 (0,0)) (by (with_reducible repeat (first|refine blk_drewN ?_ _|refine blk_drew ?_|refine blk_alloc ?_ _));exact BK616.out) hb);have n5_:=Aside0.mk (blk_below (g:=gb628) (o:=.cells #[.string t621, .slice Ao47 t622.length co47, .bool t625, .string t626] 24 (0,0)) (by (with_reducible repeat (first|refine blk_drewN ?_ _|refine blk_drew ?_|refine blk_alloc ?_ _));exact BK628.out) hb);have n6_:=Aside0.mk (below_step (by repeat (first|(with_reducible first|exact HB.out|apply below_alloc|apply pw_below_drewN|apply below_drew1|refine below_set ?_ GE608.out|refine below_set ?_ GE616.out|refine below_set ?_ GE628.out)|exact HB.out)) hb);clear HO_609001;clear HO_617001;clear HO_629001;clear BK608;clear BK616;clear BK628;clear HB;have HO_609001:=n0_;have HO_617001:=n1_;have HO_629001:=n2_;have BK608:=n3_;have BK616:=n4_;have BK628:=n5_;have HB:=n6_;clear n0_ n1_ n2_ n3_ n4_ n5_ n6_;(try clear hb);(try clear hb2);(try clear hk);(try clear hi)))
           go_ret
           exact ⟨by first|rfl|(simp <;> rfl)|(simp [*] <;> rfl),by repeat (first|(with_reducible first|exact HB.out|apply below_alloc|apply pw_below_drewN|apply below_drew1|refine below_set ?_ GE608.out|refine below_set ?_ GE616.out|refine below_set ?_ GE628.out)|exact HB.out)⟩
          ·rw [if_neg c64] at H
           have c64b0:decide (t630 < 0) = false:=decide_eq_false c64
           clear c64
           by_cases c69:t630 = t618
           ·rw [if_pos c69] at H
            have c69b0:(t630 == t618) = true:=beq_iff_eq.mpr c69
            have c69b1:(t630 != t618) = false:=bne_eq_false_iff_eq.mpr c69
            clear c69
            obtain rfl:=Option.some.inj H
            have hnb70:=NB616_608.out
            have hnc70:=NB608_616.out
            have hnb71:=NB616_628.out
            have hnc71:=NB628_616.out
            have hcz72_0:wc.cell? ⟨gb616,0,none⟩ = some (.string t609):=(blk_cell BK616.out 0).trans rfl
            have hcz72_1:wc.cell? ⟨gb616,1,none⟩ = some (.slice Ao14 t619.length co14):=(blk_cell BK616.out 1).trans rfl
            have hcz72_2:wc.cell? ⟨gb616,2,none⟩ = some (.bool t613):=(blk_cell BK616.out 2).trans rfl
            have hcz72_3:wc.cell? ⟨gb616,3,none⟩ = some (.string t614):=(blk_cell BK616.out 3).trans rfl
            have hfz72_0:=blk_frozen BK616.out 0
            have hfz72_1:=blk_frozen BK616.out 1
            have hfz72_2:=blk_frozen BK616.out 2
            have hfz72_3:=blk_frozen BK616.out 3
            go_wp2_with (first|((with_reducible refine gate_callee (f:=12) rfl ?_);refine goesL_ (some 60) rfl rfl Tryd.func12 (by kernel_rfl) rfl #[.agg #[.string t609, .slice Ao14 t619.length co14, .bool t613, .string t614], .int .i64 1] rfl (by (try simp only [List.map_toArray,List.map_cons,List.map_nil]);first|done|rfl|(simp only [List.length_drop,List.length_take];rfl)) ?_;(with_reducible refine (laws_heldAddr.calls kj35 t609 _ _ t619 t613 t614 1 t630 _ ?side1 ?side2 A63.out).mono ?_);(case side1=>repeat (first|exact (Kd.R_reads' HO_617001.out).2.2|(with_reducible refine Kd.C_alloc ?_ _)|(with_reducible refine Kd.C_drewN ?_ _)|(with_reducible refine Kd.C_drew ?_)));(case side2=>exact (Kd.R_reads' HO_617001.out).2.1);rintro e w73 ⟨rfl,hb⟩;refine ⟨_,rfl,?_⟩;have n0_:=Aside0.mk (Kd.R_below (by (with_reducible repeat (first|apply Kd.R_alloc|apply Kd.R_drewN|apply Kd.R_drew));exact HO_609001.out) hb);have n1_:=Aside0.mk (Kd.R_below (by (with_reducible repeat (first|apply Kd.R_alloc|apply Kd.R_drewN|apply Kd.R_drew));exact HO_617001.out) hb);have n2_:=Aside0.mk (Kd.R_below (by (with_reducible repeat (first|apply Kd.R_alloc|apply Kd.R_drewN|apply Kd.R_drew));exact HO_629001.out) hb);have n3_:=Aside0.mk (blk_below (g:=gb608) (o:=.cells #[.string t601, .slice Ao9 t602.length co9, .bool t605, .string t606] 24 (0,0)) (by (with_reducible repeat (first|refine blk_drewN ?_ _|refine blk_drew ?_|refine blk_alloc ?_ _));exact BK608.out) hb);have n4_:=Aside0.mk (blk_below (g:=gb616) (o:=.cells #[.string t609, .slice Ao14 t619.length co14, .bool t613, .string t614] 24 (0,0)) (by (with_reducible repeat (first|refine blk_drewN ?_ _|refine blk_drew ?_|refine blk_alloc ?_ _));exact BK616.out) hb);have n5_:=Aside0.mk (blk_below (g:=gb628) (o:=.cells #[.string t621, .slice Ao47 t622.length co47, .bool t625, .string t626] 24 (0,0)) (by (with_reducible repeat (first|refine blk_drewN ?_ _|refine blk_drew ?_|refine blk_alloc ?_ _));exact BK628.out) hb);have n6_:=Aside0.mk (below_step (by repeat (first|(with_reducible first|exact HB.out|apply below_alloc|apply pw_below_drewN|apply below_drew1|refine below_set ?_ GE608.out|refine below_set ?_ GE616.out|refine below_set ?_ GE628.out)|exact HB.out)) hb);clear HO_609001;clear HO_617001;clear HO_629001;clear BK608;clear BK616;clear BK628;clear HB;have HO_609001:=n0_;have HO_617001:=n1_;have HO_629001:=n2_;have BK608:=n3_;have BK616:=n4_;have BK628:=n5_;have HB:=n6_;clear n0_ n1_ n2_ n3_ n4_ n5_ n6_;(try clear hb);(try clear hb2);(try clear hk);(try clear hi)))
            go_ret
            exact ⟨by first|rfl|(simp <;> rfl)|(simp [*] <;> rfl),by repeat (first|(with_reducible first|exact HB.out|apply below_alloc|apply pw_below_drewN|apply below_drew1|refine below_set ?_ GE608.out|refine below_set ?_ GE616.out|refine below_set ?_ GE628.out)|exact HB.out)⟩
           ·rw [if_neg c69] at H
            have c69b0:(t630 == t618) = false:=beq_eq_false_iff_ne.mpr c69
            have c69b1:(t630 != t618) = true:=bne_iff_ne.mpr c69
            obtain rfl:=Option.some.inj H
            have hnb74:=NB616_608.out
            have hnc74:=NB608_616.out
            have hnb75:=NB616_628.out
            have hnc75:=NB628_616.out
            have hcz76_0:wc.cell? ⟨gb616,0,none⟩ = some (.string t609):=(blk_cell BK616.out 0).trans rfl
            have hcz76_1:wc.cell? ⟨gb616,1,none⟩ = some (.slice Ao14 t619.length co14):=(blk_cell BK616.out 1).trans rfl
            have hcz76_2:wc.cell? ⟨gb616,2,none⟩ = some (.bool t613):=(blk_cell BK616.out 2).trans rfl
            have hcz76_3:wc.cell? ⟨gb616,3,none⟩ = some (.string t614):=(blk_cell BK616.out 3).trans rfl
            have hfz76_0:=blk_frozen BK616.out 0
            have hfz76_1:=blk_frozen BK616.out 1
            have hfz76_2:=blk_frozen BK616.out 2
            have hfz76_3:=blk_frozen BK616.out 3
            go_wp2_with (first|((with_reducible refine gate_callee (f:=12) rfl ?_);refine goesL_ (some 60) rfl rfl Tryd.func12 (by kernel_rfl) rfl #[.agg #[.string t609, .slice Ao14 t619.length co14, .bool t613, .string t614], .int .i64 1] rfl (by (try simp only [List.map_toArray,List.map_cons,List.map_nil]);first|done|rfl|(simp only [List.length_drop,List.length_take];rfl)) ?_;(with_reducible refine (laws_heldAddr.calls kj35 t609 _ _ t619 t613 t614 1 t630 _ ?side1 ?side2 A63.out).mono ?_);(case side1=>repeat (first|exact (Kd.R_reads' HO_617001.out).2.2|(with_reducible refine Kd.C_alloc ?_ _)|(with_reducible refine Kd.C_drewN ?_ _)|(with_reducible refine Kd.C_drew ?_)));(case side2=>exact (Kd.R_reads' HO_617001.out).2.1);rintro e w77 ⟨rfl,hb⟩;refine ⟨_,rfl,?_⟩;have n0_:=Aside0.mk (Kd.R_below (by (with_reducible repeat (first|apply Kd.R_alloc|apply Kd.R_drewN|apply Kd.R_drew));exact HO_609001.out) hb);have n1_:=Aside0.mk (Kd.R_below (by (with_reducible repeat (first|apply Kd.R_alloc|apply Kd.R_drewN|apply Kd.R_drew));exact HO_617001.out) hb);have n2_:=Aside0.mk (Kd.R_below (by (with_reducible repeat (first|apply Kd.R_alloc|apply Kd.R_drewN|apply Kd.R_drew));exact HO_629001.out) hb);have n3_:=Aside0.mk (blk_below (g:=gb608) (o:=.cells #[.string t601, .slice Ao9 t602.length co9, .bool t605, .string t606] 24 (0,0)) (by (with_reducible repeat (first|refine blk_drewN ?_ _|refine blk_drew ?_|refine blk_alloc ?_ _));exact BK608.out) hb);have n4_:=Aside0.mk (blk_below (g:=gb616) (o:=.cells #[.string t609, .slice Ao14 t619.length co14, .bool t613, .string t614] 24 (0,0)) (by (with_reducible repeat (first|refine blk_drewN ?_ _|refine blk_drew ?_|refine blk_alloc ?_ _));exact BK616.out) hb);have n5_:=Aside0.mk (blk_below (g:=gb628) (o:=.cells #[.string t621, .slice Ao47 t622.length co47, .bool t625, .string t626] 24 (0,0)) (by (with_reducible repeat (first|refine blk_drewN ?_ _|refine blk_drew ?_|refine blk_alloc ?_ _));exact BK628.out) hb);have n6_:=Aside0.mk (below_step (by repeat (first|(with_reducible first|exact HB.out|apply below_alloc|apply pw_below_drewN|apply below_drew1|refine below_set ?_ GE608.out|refine below_set ?_ GE616.out|refine below_set ?_ GE628.out)|exact HB.out)) hb);clear HO_609001;clear HO_617001;clear HO_629001;clear BK608;clear BK616;clear BK628;clear HB;have HO_609001:=n0_;have HO_617001:=n1_;have HO_629001:=n2_;have BK608:=n3_;have BK616:=n4_;have BK628:=n5_;have HB:=n6_;clear n0_ n1_ n2_ n3_ n4_ n5_ n6_;(try clear hb);(try clear hb2);(try clear hk);(try clear hi)))
            go_ret
            exact ⟨by first|rfl|(simp <;> rfl)|(simp [*] <;> rfl),by repeat (first|(with_reducible first|exact HB.out|apply below_alloc|apply pw_below_drewN|apply below_drew1|refine below_set ?_ GE608.out|refine below_set ?_ GE616.out|refine below_set ?_ GE628.out)|exact HB.out)⟩
      ·rw [if_neg c34] at H
       have c34b0:(t620 == t618) = false:=beq_eq_false_iff_ne.mpr c34
       have c34b1:(t620 != t618) = true:=bne_iff_ne.mpr c34
       obtain rfl:=Option.some.inj H
       have hnb78:=NB616_608.out
       have hnc78:=NB608_616.out
       have hcz79_0:wc.cell? ⟨gb616,0,none⟩ = some (.string t609):=(blk_cell BK616.out 0).trans rfl
       have hcz79_1:wc.cell? ⟨gb616,1,none⟩ = some (.slice Ao14 t610.length co14):=(blk_cell BK616.out 1).trans rfl
       have hcz79_2:wc.cell? ⟨gb616,2,none⟩ = some (.bool t613):=(blk_cell BK616.out 2).trans rfl
       have hcz79_3:wc.cell? ⟨gb616,3,none⟩ = some (.string t614):=(blk_cell BK616.out 3).trans rfl
       have hfz79_0:=blk_frozen BK616.out 0
       have hfz79_1:=blk_frozen BK616.out 1
       have hfz79_2:=blk_frozen BK616.out 2
       have hfz79_3:=blk_frozen BK616.out 3
       go_wp2_with (first|((with_reducible refine gate_callee (f:=11) rfl ?_);refine goesL_ (some 35) rfl rfl Tryd.func11 (by kernel_rfl) rfl #[.agg #[.string t609, .slice Ao14 t610.length co14, .bool t613, .string t614], .int .i64 1] rfl (by (try simp only [List.map_toArray,List.map_cons,List.map_nil]);first|done|rfl|(simp only [List.length_drop,List.length_take];rfl)) ?_;(with_reducible refine (laws_markAddr.calls kj4 t609 (fun k_=>some k_ = (.slice Ao14 t610.length co14:Value).ownBlock) (.slice Ao14 t610.length co14) t610 t613 t614 1 t618 t619 w _ ?side1 ?side2 A26.out).mono ?_);(case side1=>repeat (first|(with_reducible first|exact HB.out|apply below_alloc|apply pw_below_drewN|apply below_drew1|refine below_set ?_ GE608.out|refine below_set ?_ GE616.out)|exact HB.out));(case side2=>exact Kd.R_tight rfl HO_617001.out);rintro e w80 ⟨rfl,hy0,hb,hkp⟩;refine ⟨_,rfl,?_⟩;have n0_:=Aside0.mk (Kd.R_mono (ok':=fun k_=>some k_ ≠ (.slice Ao14 t610.length co14:Value).ownBlock) (Kd.R_keptB (HO_609001.out) hkp (fun k_ hk_ hs_=>(hk_) hs_)) (fun k_ hk_=>hk_.1));have n1_:=Aside0.mk (Kd.R_reok rfl hy0 (fun k_ e_=>HO_617001.out.1 k_ e_));have n2_:=Aside0.mk (blk_kept (by (with_reducible repeat (first|refine blk_drewN ?_ _|refine blk_drew ?_|refine blk_alloc ?_ _));exact BK608.out) hkp (fun hs_=>(fun e_=>(Kd.R_ne HO_617001.out BK608.out (by decide)) e_) hs_));have n3_:=Aside0.mk (blk_kept (by (with_reducible repeat (first|refine blk_drewN ?_ _|refine blk_drew ?_|refine blk_alloc ?_ _));exact BK616.out) hkp (fun hs_=>(fun e_=>(Kd.R_ne HO_617001.out BK616.out (by decide)) e_) hs_));have n4_:=Aside0.mk (hb);clear HO_609001;clear HO_617001;clear BK608;clear BK616;clear HB;have HO_609001:=n0_;have HO_617001:=n1_;have BK608:=n2_;have BK616:=n3_;have HB:=n4_;clear n0_ n1_ n2_ n3_ n4_;(try clear hb);(try clear hkp);(try clear hy0);have hcz81_0:w80.cell? ⟨gb616,0,none⟩ = some (.string t609):=(blk_cell BK616.out 0).trans rfl;have hcz81_1:w80.cell? ⟨gb616,1,none⟩ = some (.slice Ao14 t610.length co14):=(blk_cell BK616.out 1).trans rfl;have hcz81_2:w80.cell? ⟨gb616,2,none⟩ = some (.bool t613):=(blk_cell BK616.out 2).trans rfl;have hcz81_3:w80.cell? ⟨gb616,3,none⟩ = some (.string t614):=(blk_cell BK616.out 3).trans rfl;have hfz81_0:=blk_frozen BK616.out 0;have hfz81_1:=blk_frozen BK616.out 1;have hfz81_2:=blk_frozen BK616.out 2;have hfz81_3:=blk_frozen BK616.out 3)|((with_reducible refine gate_callee (f:=12) rfl ?_);refine goesL_ (some 38) rfl rfl Tryd.func12 (by kernel_rfl) rfl #[.agg #[.string t609, .slice Ao14 t619.length co14, .bool t613, .string t614], .int .i64 1] rfl (by (try simp only [List.map_toArray,List.map_cons,List.map_nil]);first|done|(rw [show t619.length = t610.length from (Kd.R_reads' HO_617001.out).1.symm] <;> rfl)|rfl|(simp only [List.length_drop,List.length_take];rfl)) ?_;(with_reducible refine (laws_heldAddr.calls kj4 t609 _ _ t619 t613 t614 1 t620 _ ?side1 ?side2 A27.out).mono ?_);(case side1=>repeat (first|exact (Kd.R_reads' HO_617001.out).2.2|(with_reducible refine Kd.C_alloc ?_ _)|(with_reducible refine Kd.C_drewN ?_ _)|(with_reducible refine Kd.C_drew ?_)));(case side2=>rw [show t619.length = t610.length from (Kd.R_reads' HO_617001.out).1.symm];exact (Kd.R_reads' HO_617001.out).2.1);rintro e w82 ⟨rfl,hb⟩;refine ⟨_,rfl,?_⟩;have n0_:=Aside0.mk (Kd.R_below (by (with_reducible repeat (first|apply Kd.R_alloc|apply Kd.R_drewN|apply Kd.R_drew));exact HO_609001.out) hb);have n1_:=Aside0.mk (Kd.R_below (by (with_reducible repeat (first|apply Kd.R_alloc|apply Kd.R_drewN|apply Kd.R_drew));exact HO_617001.out) hb);have n2_:=Aside0.mk (blk_below (g:=gb608) (o:=.cells #[.string t601, .slice Ao9 t602.length co9, .bool t605, .string t606] 24 (0,0)) (by (with_reducible repeat (first|refine blk_drewN ?_ _|refine blk_drew ?_|refine blk_alloc ?_ _));exact BK608.out) hb);have n3_:=Aside0.mk (blk_below (g:=gb616) (o:=.cells #[.string t609, .slice Ao14 t610.length co14, .bool t613, .string t614] 24 (0,0)) (by (with_reducible repeat (first|refine blk_drewN ?_ _|refine blk_drew ?_|refine blk_alloc ?_ _));exact BK616.out) hb);have n4_:=Aside0.mk (below_step (by repeat (first|(with_reducible first|exact HB.out|apply below_alloc|apply pw_below_drewN|apply below_drew1|refine below_set ?_ GE608.out|refine below_set ?_ GE616.out)|exact HB.out)) hb);clear HO_609001;clear HO_617001;clear BK608;clear BK616;clear HB;have HO_609001:=n0_;have HO_617001:=n1_;have BK608:=n2_;have BK616:=n3_;have HB:=n4_;clear n0_ n1_ n2_ n3_ n4_;(try clear hb);(try clear hb2);(try clear hk);(try clear hi)))
       go_ret
       exact ⟨by first|rfl|(simp <;> rfl)|(simp [*] <;> rfl),by repeat (first|(with_reducible first|exact HB.out|apply below_alloc|apply pw_below_drewN|apply below_drew1|refine below_set ?_ GE608.out|refine below_set ?_ GE616.out)|exact HB.out)⟩

/-- THE ONE PURE STATEMENT of laws_FnExactAddrRead: yours. -/
def laws_FnExactAddrRead.Pure:Prop:=∀ (a0:ByteArray),a0.size ≤ 140737488351232 → ∃ k,laws_FnExactAddrRead.f k a0 = some true
end Go.Proofs.YtochmlkladpfgaaDoor.P
