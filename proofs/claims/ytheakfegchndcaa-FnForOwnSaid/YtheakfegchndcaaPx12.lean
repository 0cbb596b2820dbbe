-- Written by a program of this session (patch_print.py over the kit's print; given texts in wip/given).
-- Cut down by a program of this session (wip/tools/prune.py) to what its claim can name.
import Derived.Test.YtheakfegchndcaaPx0
import Derived.Test.YtheakfegchndcaaPx3
import Derived.Test.YtheakfegchndcaaPx6
import Derived.Test.YtheakfegchndcaaPx7
namespace Go.Proofs.Ytheakfegchndcaa.P
open Go.RowKit Go.Proofs.YtheakfegchndcaaW.PrintWords Go.Proofs.YtheakfegchndcaaW.PrintLast Go.Proofs.YtheakfegchndcaaW.PrintMore
attribute [local go_sem] max2_int min2_int max_two min_two max_three min_three max_four min_four   -- for this text's walks alone
set_option linter.unusedVariables false
set_option linter.unusedSimpArgs false
set_option maxHeartbeats 8000000
set_option maxRecDepth 100000

def laws_FnForOwn.l0:Nat → List (S30) → ByteArray → List (S30) → Int → List ByteArray → List (S57) → Int → Option (Bool)
 | 0,_,_,_,_,_,_,_=>none
 | k + 1,x3,x4,x6,x7,x453000,x453001,x453002=>if x7 < (x3.length:Int) then (if 0 ≤ x7 then ((laws_lpHas.f k ((rd_T30 x3 x7).f0) x4).bind fun t465=>(if t465 = true then (if x6.length < 2513169434916 then (laws_FnForOwn.l0 k x3 x4 (x6 ++ [(⟨(rd_T30 x3 x7).f0,(rd_T30 x3 x7).f1,(rd_T30 x3 x7).f2⟩:S30)]) (wrap64 (x7 + 1)) x453000 x453001 x453002) else (none)) else (laws_FnForOwn.l0 k x3 x4 x6 (wrap64 (x7 + 1)) x453000 x453001 x453002))) else (none)) else ((laws_lpTexts.f k x453000 (([x4]:List ByteArray))).bind fun t473=>(if t473 = true then (if (x6.length:Int) = 0 then (some true) else ((impl_NoticeFor.f x6 x4).bind fun bt474=>((laws_lpGroup.f k bt474.1 bt474.2.1 bt474.2.2 x453000 x453001 x453002).bind fun t481=>(some t481)))) else (none)))
def laws_FnForOwn.f (k:Nat) (l0:List Int):Option (Bool):=if (l0.length:Int) > 1048576 then (some true) else ((spec_DrawNoticeFor.f k l0).bind fun bt441=>((impl_NoticeFor.f bt441.1 bt441.2).bind fun bt445=>((spec_NoticeFor.f k bt441.1 bt441.2).bind fun bt453=>((laws_lpGroup.f k bt445.1 bt445.2.1 bt445.2.2 bt453.1 bt453.2.1 bt453.2.2).bind fun t460=>(if t460 = true then (laws_FnForOwn.l0 k bt441.1 bt441.2 (([]:List (S30))) 0 bt445.1 bt445.2.1 bt445.2.2) else (none))))))
theorem laws_FnForOwn.mono_l:∀ k,(∀ y0 y1 y2 y3 y4 y5 y6,LeO (laws_FnForOwn.l0 k y0 y1 y2 y3 y4 y5 y6) (laws_FnForOwn.l0 (k + 1) y0 y1 y2 y3 y4 y5 y6))
 | 0=>fun _ _ _ _ _ _ _ r h=>by simp [laws_FnForOwn.l0] at h
 | k + 1=>by
  have ih0:=laws_FnForOwn.mono_l k
  ·intro y0 y1 y2 y3 y4 y5 y6
   unfold laws_FnForOwn.l0
   repeat' first
   | (with_reducible exact ih0 _ _ _ _ _ _ _)
   | (with_reducible exact laws_lpGroup.mono _ _ _ _ _ _ _)
   | (with_reducible exact laws_lpHas.mono _ _ _)
   | (with_reducible exact laws_lpTexts.mono _ _ _)
   | (with_reducible exact spec_DrawNoticeFor.mono _ _)
   | (with_reducible exact spec_NoticeFor.mono _ _ _)
   | (with_reducible exact LeO.refl _)
   | (with_reducible exact LeO.none _)
   | (with_reducible refine LeO.ite ?_ ?_)
   | (with_reducible refine LeO.bind ?_ (fun _=>?_))
   | exact ih0 _ _ _ _ _ _ _
   | exact laws_lpGroup.mono _ _ _ _ _ _ _
   | exact laws_lpHas.mono _ _ _
   | exact laws_lpTexts.mono _ _ _
   | exact spec_DrawNoticeFor.mono _ _
   | exact spec_NoticeFor.mono _ _ _
   | exact LeO.none _
   | refine LeO.ite ?_ ?_
   | refine LeO.bind ?_ (fun _=>?_)
theorem laws_FnForOwn.mono:∀ a0 k,LeO (laws_FnForOwn.f k a0) (laws_FnForOwn.f (k + 1) a0):=by
 intro a0 k
 have ih0:=laws_FnForOwn.mono_l k
 unfold laws_FnForOwn.f
 repeat' first
   | (with_reducible exact ih0 _ _ _ _ _ _ _)
   | (with_reducible exact laws_lpGroup.mono _ _ _ _ _ _ _)
   | (with_reducible exact laws_lpHas.mono _ _ _)
   | (with_reducible exact laws_lpTexts.mono _ _ _)
   | (with_reducible exact spec_DrawNoticeFor.mono _ _)
   | (with_reducible exact spec_NoticeFor.mono _ _ _)
   | (with_reducible exact LeO.refl _)
   | (with_reducible exact LeO.none _)
   | (with_reducible refine LeO.ite ?_ ?_)
   | (with_reducible refine LeO.bind ?_ (fun _=>?_))
   | exact ih0 _ _ _ _ _ _ _
   | exact laws_lpGroup.mono _ _ _ _ _ _ _
   | exact laws_lpHas.mono _ _ _
   | exact laws_lpTexts.mono _ _ _
   | exact spec_DrawNoticeFor.mono _ _
   | exact spec_NoticeFor.mono _ _ _
   | exact LeO.none _
   | refine LeO.ite ?_ ?_
   | refine LeO.bind ?_ (fun _=>?_)
def laws_FnForOwn.T13:Bool × List (List Nat × List Nat):=(true,[([],[]),([0],[0]),([],[]),([2],[2]),([1,3],[1,3]),([4,4],[4]),([5],[5]),([6,5],[5,6]),([7,5],[5,7]),([8,5,5],[5,8]),([9],[9]),([9],[9]),([10,11,9,9],[9,10,11]),([9],[9]),([12,13,12,9],[9,12,13]),([9,14,5],[5,9,14]),([5,15],[5,15]),([16,14,0,1,2,3,4,5,6,7,8,9,10,11,12,13,14,15,16],[16])])
def laws_FnForOwn.B13:List Nat:=[0,1,0,4,15,31,63,127,255,511,1023,1023,4095,1023,16383,32767,65535,131071]
theorem laws_FnForOwn.tab13:rtab .any (opsOf Try.f7 13) = laws_FnForOwn.T13:=by kernel_rfl
theorem laws_FnForOwn.bits13:waitsOk laws_FnForOwn.T13.2 laws_FnForOwn.B13 = true:=by kernel_rfl
theorem laws_FnForOwn.calls (k:Nat) (A0:Option Addr) (c0:Nat) (l0:List Int) (r:Bool) (w:World) (hr0:Kd.C (Kd.int .u8) w A0 l0.length l0) (hc0:l0.length ≤ c0) (h:laws_FnForOwn.f k l0 = some r) :
  Calls Try.prog 7 #[.slice A0 l0.length c0] w fun e w'=>e = .returned (.bool r) ∧ Below w.heap.size w w':=by
 have hu30:=Try.underlying30
 have HR0:=Aside0.mk hr0
 have HC0:=Aside0.mk hc0
 clear hr0 hc0
 have HB:=Aside0.mk (Below.refl w.heap.size w)
 have H:(if (l0.length:Int) > 1048576 then (some true) else ((spec_DrawNoticeFor.f k l0).bind fun bt441=>((impl_NoticeFor.f bt441.1 bt441.2).bind fun bt445=>((spec_NoticeFor.f k bt441.1 bt441.2).bind fun bt453=>((laws_lpGroup.f k bt445.1 bt445.2.1 bt445.2.2 bt453.1 bt453.2.1 bt453.2.2).bind fun t460=>(if t460 = true then (laws_FnForOwn.l0 k bt441.1 bt441.2 (([]:List (S30))) 0 bt445.1 bt445.2.1 bt445.2.2) else (none))))))) = some r:=h
 clear h
 by_cases c2:(l0.length:Int) > 1048576
 ·rw [if_pos c2] at H
  have c2b0:decide (1048576 < (l0.length:Int)) = true:=decide_eq_true c2
  have c2b1:decide (1048576 < l0.length) = true:=decide_eq_true (by omega)
  clear c2
  obtain rfl:=Option.some.inj H
  go_enter Try.func7,Try.ntmps7
  go_wp2
  go_ret
  exact ⟨by first|rfl|(simp <;> rfl)|(simp [*] <;> rfl),by repeat (first|(with_reducible first|exact HB.out|apply below_alloc|apply pw_below_drewN|apply below_drew1)|exact HB.out)⟩
 ·rw [if_neg c2] at H
  have c2b0:decide (1048576 < (l0.length:Int)) = false:=decide_eq_false c2
  have c2b1:decide (1048576 < l0.length) = false:=decide_eq_false (by omega)
  clear c2
  replace H:=Option.bind_eq_some_iff.mp H
  obtain ⟨⟨t441,t442⟩,A30,H⟩:=H
  replace H:((impl_NoticeFor.f t441 t442).bind fun bt445=>((spec_NoticeFor.f k t441 t442).bind fun bt453=>((laws_lpGroup.f k bt445.1 bt445.2.1 bt445.2.2 bt453.1 bt453.2.1 bt453.2.2).bind fun t460=>(if t460 = true then (laws_FnForOwn.l0 k t441 t442 (([]:List (S30))) 0 bt445.1 bt445.2.1 bt445.2.2) else (none))))) = some r:=H
  have A3:=Aside0.mk A30
  clear A30
  replace H:=Option.bind_eq_some_iff.mp H
  obtain ⟨⟨t445,t448,t451⟩,A40,H⟩:=H
  replace H:((spec_NoticeFor.f k t441 t442).bind fun bt453=>((laws_lpGroup.f k t445 t448 t451 bt453.1 bt453.2.1 bt453.2.2).bind fun t460=>(if t460 = true then (laws_FnForOwn.l0 k t441 t442 (([]:List (S30))) 0 t445 t448 t451) else (none)))) = some r:=H
  have A4:=Aside0.mk A40
  clear A40
  replace H:=Option.bind_eq_some_iff.mp H
  obtain ⟨⟨t453,t456,t459⟩,A50,H⟩:=H
  replace H:((laws_lpGroup.f k t445 t448 t451 t453 t456 t459).bind fun t460=>(if t460 = true then (laws_FnForOwn.l0 k t441 t442 (([]:List (S30))) 0 t445 t448 t451) else (none))) = some r:=H
  have A5:=Aside0.mk A50
  clear A50
  replace H:=Option.bind_eq_some_iff.mp H
  obtain ⟨t460,A60,H⟩:=H
  replace H:(if t460 = true then (laws_FnForOwn.l0 k t441 t442 (([]:List (S30))) 0 t445 t448 t451) else (none)) = some r:=H
  have A6:=Aside0.mk A60
  clear A60
  by_cases c7:t460 = true
  ·subst c7
   have H1:(laws_FnForOwn.l0 k t441 t442 (([]:List (S30))) 0 t445 t448 t451) = some r:=by rw [if_pos rfl] at H;exact H
   clear H
   have H:=H1
   clear H1
   obtain ⟨y461,hy461⟩:∃ y_:List (S30),y_ = (([]:List (S30))):=⟨_,rfl⟩
   replace H:(laws_FnForOwn.l0 k t441 t442 y461 0 t445 t448 t451) = some r:=by first|(rw [hy461];with_reducible exact H)|(have H2_:=(Option.bind_some _ _).symm.trans H;rw [hy461];with_reducible exact H2_)|(have H2_:=(Option.bind_some _ _).symm.trans H;with_reducible exact H2_)|with_reducible exact H|(rw [hy461];exact H)|exact H
   have Ny461:=Aside0.mk hy461
   clear hy461
   have H':=Aside0.mk H
   clear H
   go_enter Try.func7,Try.ntmps7
   try go_wp2_with (first|((with_reducible refine gate_callee (f:=11) rfl ?_);refine goesL_ (some 13) rfl rfl Try.func11 (by kernel_rfl) rfl #[.slice A0 l0.length c0] rfl (by (try simp only [List.map_toArray,List.map_cons,List.map_nil]);first|done|rfl|(simp only [List.length_drop,List.length_take];rfl)) ?_;(with_reducible refine (spec_DrawNoticeFor.calls k _ _ l0 t441 t442 _ ?side1 ?side2 A3.out).mono ?_);(case side1=>repeat (first|exact HR0.out|(with_reducible refine Kd.C_alloc ?_ _)|(with_reducible refine Kd.C_drewN ?_ _)|(with_reducible refine Kd.C_drew ?_)));(case side2=>exact HC0.out);rintro e w8 ⟨v443,rfl,ho0,hb⟩;refine ⟨_,rfl,?_⟩;have n0_:=Aside0.mk (Kd.N_lower (Kd.N_mono (ok':=fun k_=>True) (Kd.S_N (Kd.S_bound ho0)) (fun k_ hk_=>trivial)) (below_size (by repeat (first|(with_reducible first|exact HB.out|apply below_alloc|apply pw_below_drewN|apply below_drew1)|exact HB.out))));have n1_:=Aside0.mk (below_step (by repeat (first|(with_reducible first|exact HB.out|apply below_alloc|apply pw_below_drewN|apply below_drew1)|exact HB.out)) hb);clear HB;have HO444:=n0_;have HB:=n1_;clear n0_ n1_;(try clear hb);(try clear hb2);(try clear hk);(try clear hi);(try clear ho0);obtain ⟨Ao9,co9,eo9⟩:=Kd.N_slice HO444.out;subst eo9)|((with_reducible refine gate_callee (f:=12) rfl ?_);refine goesL_ (some 18) rfl rfl Try.func12 (by kernel_rfl) rfl #[.slice Ao9 t441.length co9, .string t442] rfl (by (try simp only [List.map_toArray,List.map_cons,List.map_nil]);first|done|rfl|(simp only [List.length_drop,List.length_take];rfl)) ?_;(with_reducible refine (impl_NoticeFor.calls _ _ t441 t442 t445 t448 t451 _ ?side1 ?side2 A4.out).mono ?_);(case side1=>repeat (first|exact (Kd.N_reads' HO444.out).2.2|(with_reducible refine Kd.C_alloc ?_ _)|(with_reducible refine Kd.C_drewN ?_ _)|(with_reducible refine Kd.C_drew ?_)));(case side2=>exact (Kd.N_reads' HO444.out).2.1);rintro e w10 ⟨v446,v449,rfl,ho0,ho1,hb⟩;refine ⟨_,rfl,?_⟩;have n0_:=Aside0.mk (Kd.N_mono (Kd.N_told (Kd.N_told (Kd.N_old (by (with_reducible repeat (first|apply Kd.N_alloc|apply Kd.N_drewN|apply Kd.N_drew));exact HO444.out) hb) (Kd.R_base ho0)) (Kd.R_base ho1)) (fun _ h_=>h_.1));have n1_:=Aside0.mk (Kd.R_lower ho0 (below_size (by repeat (first|(with_reducible first|exact HB.out|apply below_alloc|apply pw_below_drewN|apply below_drew1)|exact HB.out))));have n2_:=Aside0.mk (Kd.R_lower ho1 (below_size (by repeat (first|(with_reducible first|exact HB.out|apply below_alloc|apply pw_below_drewN|apply below_drew1)|exact HB.out))));have n3_:=Aside0.mk (below_step (by repeat (first|(with_reducible first|exact HB.out|apply below_alloc|apply pw_below_drewN|apply below_drew1)|exact HB.out)) hb);clear HO444;clear HB;have HO444:=n0_;have HO447:=n1_;have HO450:=n2_;have HB:=n3_;clear n0_ n1_ n2_ n3_;(try clear hb);(try clear hb2);(try clear hk);(try clear hi);(try clear ho0);(try clear ho1))|((with_reducible refine gate_dst (N:=5) rfl ?_);(try (refine gate_guard (by rfl) ?_;dsimp only));refine box_event ?hg (N:=5) ?hd (cs:=#[.slice none 0 0, .slice none 0 0, .int .i64 0]) (t:=30) ?hr ?_;(case hd=>rfl);(case hg=>rfl);(case hr=>first|(go_simp;done)|(go_simp;rfl));intro gb452 hg w11 hbox hb;have n0_:=Aside0.mk (Kd.N_below (Kd.N_elderB (by (with_reducible repeat (first|apply Kd.N_alloc|apply Kd.N_drewN|apply Kd.N_drew));exact HO444.out) gb452 (Nat.le_of_eq hg.symm)) hb);have n1_:=Aside0.mk (Kd.R_below (by (with_reducible repeat (first|apply Kd.R_alloc|apply Kd.R_drewN|apply Kd.R_drew));exact HO447.out) hb);have n2_:=Aside0.mk (Kd.R_below (by (with_reducible repeat (first|apply Kd.R_alloc|apply Kd.R_drewN|apply Kd.R_drew));exact HO450.out) hb);have n3_:=Aside0.mk (below_step (by repeat (first|(with_reducible first|exact HB.out|apply below_alloc|apply pw_below_drewN|apply below_drew1)|exact HB.out)) hb);have n4_:=Aside0.mk (hbox);have n5_:=Aside0.mk ((by rw [hg];exact (below_size (by repeat (first|(with_reducible first|exact HB.out|apply below_alloc|apply pw_below_drewN|apply below_drew1)|exact HB.out))):w.heap.size ≤ gb452));have n6_:=n5_;clear HO444;clear HO447;clear HO450;clear HB;have HO444:=n0_;have HO447:=n1_;have HO450:=n2_;have HB:=n3_;have BK452:=n4_;have GW452:=n5_;have GE452:=n6_;clear n0_ n1_ n2_ n3_ n4_ n5_ n6_;clear hb hbox hg;obtain ⟨Ao12,co12,eo12⟩:=Kd.R_slice HO447.out;subst eo12;have hcz13_0:w11.cell? ⟨gb452,0,none⟩ = some (.slice none 0 0):=(blk_cell BK452.out 0).trans rfl;have hcz13_1:w11.cell? ⟨gb452,1,none⟩ = some (.slice none 0 0):=(blk_cell BK452.out 1).trans rfl;have hcz13_2:w11.cell? ⟨gb452,2,none⟩ = some (.int .i64 0):=(blk_cell BK452.out 2).trans rfl;have hfz13_0:=blk_frozen BK452.out 0;have hfz13_1:=blk_frozen BK452.out 1;have hfz13_2:=blk_frozen BK452.out 2;obtain ⟨Ao14,co14,eo14⟩:=Kd.R_slice HO450.out;subst eo14))
   have n0_:Aside0 (Kd.N k30 30 (((w11.setCell ⟨gb452,0,none⟩ (.slice Ao12 t445.length co12)).setCell ⟨gb452,1,none⟩ (.slice Ao14 t448.length co14)).setCell ⟨gb452,2,none⟩ (.int .i64 t451)) w.heap.size (fun k_=>some k_ ≠ (.slice Ao12 t445.length co12:Value).ownBlock ∧ some k_ ≠ (.slice Ao14 t448.length co14:Value).ownBlock ∧ k_ ≠ gb452) (.slice Ao9 t441.length co9) t441):=⟨by (with_reducible repeat (first|apply Kd.N_alloc|apply Kd.N_drewN|apply Kd.N_drew));exact Kd.N_mono (Kd.N_far (p:=⟨gb452,2,none⟩) (Kd.N_far (p:=⟨gb452,1,none⟩) (Kd.N_far (p:=⟨gb452,0,none⟩) (Kd.N_mono HO444.out (fun k_ hk=>(⟨hk,hk.2⟩:_ ∧ k_ ≠ gb452))) (fun _ hk=>hk.2) (.slice Ao12 t445.length co12)) (fun _ hk=>hk.2) (.slice Ao14 t448.length co14)) (fun _ hk=>hk.2) (.int .i64 t451)) (fun _ hk=>⟨hk.1.1.1.2,⟨hk.1.1.2,hk.1.2⟩⟩)⟩
   have n1_:Aside0 (Kd.R Kd.string 9 (((w11.setCell ⟨gb452,0,none⟩ (.slice Ao12 t445.length co12)).setCell ⟨gb452,1,none⟩ (.slice Ao14 t448.length co14)).setCell ⟨gb452,2,none⟩ (.int .i64 t451)) w.heap.size (fun _=>True) (.slice Ao12 t445.length co12) t445):=⟨by (with_reducible repeat (first|apply Kd.R_alloc|apply Kd.R_drewN|apply Kd.R_drew));exact Kd.R_mono (Kd.R_far (p:=⟨gb452,2,none⟩) (Kd.R_far (p:=⟨gb452,1,none⟩) (Kd.R_far (p:=⟨gb452,0,none⟩) (Kd.R_types HO447.out BK452.out (by decide)) (fun _ hk=>hk.2) (.slice Ao12 t445.length co12)) (fun _ hk=>hk.2) (.slice Ao14 t448.length co14)) (fun _ hk=>hk.2) (.int .i64 t451)) (fun _ hk=>trivial)⟩
   have n2_:Aside0 (Kd.R k57 57 (((w11.setCell ⟨gb452,0,none⟩ (.slice Ao12 t445.length co12)).setCell ⟨gb452,1,none⟩ (.slice Ao14 t448.length co14)).setCell ⟨gb452,2,none⟩ (.int .i64 t451)) w.heap.size (fun _=>True) (.slice Ao14 t448.length co14) t448):=⟨by (with_reducible repeat (first|apply Kd.R_alloc|apply Kd.R_drewN|apply Kd.R_drew));exact Kd.R_mono (Kd.R_far (p:=⟨gb452,2,none⟩) (Kd.R_far (p:=⟨gb452,1,none⟩) (Kd.R_far (p:=⟨gb452,0,none⟩) (Kd.R_types HO450.out BK452.out (by decide)) (fun _ hk=>hk.2) (.slice Ao12 t445.length co12)) (fun _ hk=>hk.2) (.slice Ao14 t448.length co14)) (fun _ hk=>hk.2) (.int .i64 t451)) (fun _ hk=>trivial)⟩
   have n3_:Aside0 ((((w11.setCell ⟨gb452,0,none⟩ (.slice Ao12 t445.length co12)).setCell ⟨gb452,1,none⟩ (.slice Ao14 t448.length co14)).setCell ⟨gb452,2,none⟩ (.int .i64 t451)).heap[gb452]? = some (.cells #[.slice Ao12 t445.length co12, .slice Ao14 t448.length co14, .int .i64 t451] 30 (0,0))):=⟨by (with_reducible repeat (first|refine blk_drewN ?_ _|refine blk_drew ?_|refine blk_alloc ?_ _));refine blk_put (cs:=#[.slice Ao12 t445.length co12, .slice Ao14 t448.length co14, .int .i64 0]) ?_ 2 _ rfl;(with_reducible repeat (first|refine blk_drewN ?_ _|refine blk_drew ?_|refine blk_alloc ?_ _));refine blk_put (cs:=#[.slice Ao12 t445.length co12, .slice none 0 0, .int .i64 0]) ?_ 1 _ rfl;(with_reducible repeat (first|refine blk_drewN ?_ _|refine blk_drew ?_|refine blk_alloc ?_ _));refine blk_put (cs:=#[.slice none 0 0, .slice none 0 0, .int .i64 0]) ?_ 0 _ rfl;(with_reducible repeat (first|refine blk_drewN ?_ _|refine blk_drew ?_|refine blk_alloc ?_ _));exact BK452.out⟩
   have n4_:Aside0 (Below w.heap.size w (((w11.setCell ⟨gb452,0,none⟩ (.slice Ao12 t445.length co12)).setCell ⟨gb452,1,none⟩ (.slice Ao14 t448.length co14)).setCell ⟨gb452,2,none⟩ (.int .i64 t451))):=⟨by repeat (first|(with_reducible first|exact HB.out|apply below_alloc|apply pw_below_drewN|apply below_drew1|refine below_set ?_ GE452.out)|exact HB.out)⟩
   (try clear HO444)
   (try clear HO447)
   (try clear HO450)
   (try clear BK452)
   (try clear HB)
   generalize (((w11.setCell ⟨gb452,0,none⟩ (.slice Ao12 t445.length co12)).setCell ⟨gb452,1,none⟩ (.slice Ao14 t448.length co14)).setCell ⟨gb452,2,none⟩ (.int .i64 t451)) = w15 at n0_ n1_ n2_ n3_ n4_ ⊢
   have HO444:=n0_
   have HO447:=n1_
   have HO450:=n2_
   have BK452:=n3_
   have HB:=n4_
   clear n0_ n1_ n2_ n3_ n4_
   have n0_:=Aside0.mk (Kd.N_drew HO444.out)
   have n1_:=Aside0.mk (Kd.R_drew HO447.out)
   have n2_:=Aside0.mk (Kd.R_drew HO450.out)
   have n3_:=Aside0.mk (blk_drew BK452.out)
   have n4_:=Aside0.mk (below_drew1 HB.out)
   clear HO444
   clear HO447
   clear HO450
   clear BK452
   clear HB
   have HO444:=n0_
   have HO447:=n1_
   have HO450:=n2_
   have BK452:=n3_
   have HB:=n4_
   clear n0_ n1_ n2_ n3_ n4_
   refine start_ (n:=6) (S:=fun w'=>w'.cell? ⟨gb452,0,none⟩ = some (.slice Ao12 t445.length co12) ∧ w'.cell? ⟨gb452,1,none⟩ = some (.slice Ao14 t448.length co14) ∧ w'.cell? ⟨gb452,2,none⟩ = some (.int .i64 t451)) (ds:=[]) #[false,false,false,false,false,false] (by kernel_rfl) rfl rfl ⟨(blk_cell BK452.out 0).trans rfl,(blk_cell BK452.out 1).trans rfl,(blk_cell BK452.out 2).trans rfl⟩ (fun hHeld=>?_)
   generalize w15.drew = w16 at HO444 HO447 HO450 BK452 HB hHeld ⊢
   refine pure_ (i:=1) (N:=some 20) (v:=?_) (a':=?_) #[false,true,false,false,false,false] rfl rfl (by kernel_rfl) (fun _ _ _ h=>h) (Or.inl ⟨by rfl,?_⟩) ?_ ?_
   rotate_left
   ·intro w'
    go_simp
    with_reducible rfl
   rotate_left
   ·simp only [Act.put,List.setIfInBounds_toArray,List.set_cons_zero,List.set_cons_succ,i64_w,i32_w]
    rfl
   refine pure_ (i:=2) (N:=some 21) (v:=?_) (a':=?_) #[false,true,true,false,false,false] rfl rfl (by kernel_rfl) (fun _ _ _ h=>h) (Or.inl ⟨by rfl,?_⟩) ?_ ?_
   rotate_left
   ·intro w'
    go_simp
    with_reducible rfl
   rotate_left
   ·simp only [Act.put,List.setIfInBounds_toArray,List.set_cons_zero,List.set_cons_succ,i64_w,i32_w]
    rfl
   refine take_ (i:=0) (N:=some 19) (v:=?_) (a':=?_) #[true,true,true,false,false,false] rfl rfl (by kernel_rfl) (fun _ _ _ h=>h) (Or.inl ⟨by rfl,?_⟩) hHeld ?_ ?_
   rotate_left
   ·rintro w' ⟨s0,s1,s2⟩
    go_simp
    with_reducible rfl
   rotate_left
   ·simp only [Act.put,List.setIfInBounds_toArray,List.set_cons_zero,List.set_cons_succ,i64_w,i32_w]
    rfl
   refine one_ (i:=3) (N:=some 22) #[true,true,true,true,false,false] rfl rfl (by kernel_rfl) (by decide) (fun K hK=>?_)
   refine goes_ Try.func14 (by kernel_rfl) rfl #[.slice Ao9 t441.length co9, .string t442] (by rfl) rfl rfl (by (try simp only [List.map_toArray,List.map_cons,List.map_nil]);first|done|rfl|(simp only [List.length_drop,List.length_take];rfl)) ?_
   with_reducible refine (spec_NoticeFor.calls k _ _ t441 t442 t453 t456 t459 _ ?side1 ?side2 A5.out).mono ?_
   (case side1=>repeat (first|exact (Kd.N_reads' HO444.out).2.2|(with_reducible refine Kd.C_alloc ?_ _)|(with_reducible refine Kd.C_drewN ?_ _)|(with_reducible refine Kd.C_drew ?_)))
   (case side2=>exact (Kd.N_reads' HO444.out).2.1)
   rintro e w17 ⟨v454,v457,rfl,ho0,ho1,hb⟩
   refine ⟨_,rfl,?_⟩
   have n0_:=Aside0.mk (Kd.N_mono (Kd.N_told (Kd.N_told (Kd.N_old (by (with_reducible repeat (first|apply Kd.N_alloc|apply Kd.N_drewN|apply Kd.N_drew));exact HO444.out) hb) (Kd.R_base ho0)) (Kd.R_base ho1)) (fun _ h_=>h_.1))
   have n1_:=Aside0.mk (Kd.R_elder' (by (with_reducible repeat (first|apply Kd.R_alloc|apply Kd.R_drewN|apply Kd.R_drew));exact HO447.out) (Kd.R_base ho0) hb)
   have n2_:=Aside0.mk (Kd.R_elder' (by (with_reducible repeat (first|apply Kd.R_alloc|apply Kd.R_drewN|apply Kd.R_drew));exact HO450.out) (Kd.R_base ho1) hb)
   have n3_:=Aside0.mk (Kd.R_lower (Kd.R_new' ho0 (Kd.R_lt (by (with_reducible repeat (first|apply Kd.R_alloc|apply Kd.R_drewN|apply Kd.R_drew));exact HO447.out))) (below_size (by repeat (first|(with_reducible first|exact HB.out|apply below_alloc|apply pw_below_drewN|apply below_drew1|refine below_set ?_ GE452.out)|exact HB.out))))
   have n4_:=Aside0.mk (Kd.R_lower (Kd.R_new' ho1 (Kd.R_lt (by (with_reducible repeat (first|apply Kd.R_alloc|apply Kd.R_drewN|apply Kd.R_drew));exact HO450.out))) (below_size (by repeat (first|(with_reducible first|exact HB.out|apply below_alloc|apply pw_below_drewN|apply below_drew1|refine below_set ?_ GE452.out)|exact HB.out))))
   have n5_:=Aside0.mk (blk_below (g:=gb452) (o:=.cells #[.slice Ao12 t445.length co12, .slice Ao14 t448.length co14, .int .i64 t451] 30 (0,0)) (by (with_reducible repeat (first|refine blk_drewN ?_ _|refine blk_drew ?_|refine blk_alloc ?_ _));exact BK452.out) hb)
   have n6_:=Aside0.mk (below_step (by repeat (first|(with_reducible first|exact HB.out|apply below_alloc|apply pw_below_drewN|apply below_drew1|refine below_set ?_ GE452.out)|exact HB.out)) hb)
   clear HO444
   clear HO447
   clear HO450
   clear BK452
   clear HB
   have HO444:=n0_
   have HO447:=n1_
   have HO450:=n2_
   have HO455:=n3_
   have HO458:=n4_
   have BK452:=n5_
   have HB:=n6_
   clear n0_ n1_ n2_ n3_ n4_ n5_ n6_
   (try clear hb)
   (try clear hb2)
   (try clear hk)
   (try clear hi)
   (try clear ho0)
   (try clear ho1)
   obtain ⟨Ao18,co18,eo18⟩:=Kd.R_slice HO455.out
   (first|subst eo18|(injection eo18 with f1_ f2_ f3_;have f4_:=f1_.symm;have f5_:=f3_.symm;clear f1_ f2_ f3_;subst f4_;subst f5_))
   obtain ⟨Ao19,co19,eo19⟩:=Kd.R_slice HO458.out
   (first|subst eo19|(injection eo19 with f1_ f2_ f3_;have f4_:=f1_.symm;have f5_:=f3_.symm;clear f1_ f2_ f3_;subst f4_;subst f5_))
   refine hK.out _ _ ⟨(blk_cell BK452.out 0).trans rfl,(blk_cell BK452.out 1).trans rfl,(blk_cell BK452.out 2).trans rfl⟩ (fun hHeld=>?_)
   clear hK K
   refine norm_ (a':=?_) ?_ ?_
   rotate_left
   ·show Act.put _ (some 22) _ = _
    simp only [Act.put,List.setIfInBounds_toArray,List.set_cons_zero,List.set_cons_succ,i64_w,i32_w]
    rfl
   refine one_ (i:=4) (N:=some 23) #[true,true,true,true,true,false] rfl rfl (by kernel_rfl) (by decide) (fun K hK=>?_)
   refine goes_ Try.func13 (by kernel_rfl) rfl #[.agg #[.slice Ao12 t445.length co12, .slice Ao14 t448.length co14, .int .i64 t451], .agg #[.slice Ao18 t453.length co18, .slice Ao19 t456.length co19, .int .i64 t459]] (by rfl) rfl rfl (by (try simp only [List.map_toArray,List.map_cons,List.map_nil]);first|done|rfl|(simp only [List.length_drop,List.length_take];rfl)) ?_
   with_reducible refine (laws_lpGroup.calls k _ _ t445 _ _ t448 t451 _ _ t453 _ _ t456 t459 true _ ?side1 ?side2 ?side3 ?side4 ?side5 ?side6 ?side7 ?side8 A6.out).mono ?_
   (case side1=>repeat (first|exact (Kd.R_reads' HO447.out).2.2|(with_reducible refine Kd.C_alloc ?_ _)|(with_reducible refine Kd.C_drewN ?_ _)|(with_reducible refine Kd.C_drew ?_)))
   (case side2=>exact (Kd.R_reads' HO447.out).2.1)
   (case side3=>repeat (first|exact (Kd.R_reads' HO450.out).2.2|(with_reducible refine Kd.C_alloc ?_ _)|(with_reducible refine Kd.C_drewN ?_ _)|(with_reducible refine Kd.C_drew ?_)))
   (case side4=>exact (Kd.R_reads' HO450.out).2.1)
   (case side5=>repeat (first|exact (Kd.R_reads' HO455.out).2.2|(with_reducible refine Kd.C_alloc ?_ _)|(with_reducible refine Kd.C_drewN ?_ _)|(with_reducible refine Kd.C_drew ?_)))
   (case side6=>exact (Kd.R_reads' HO455.out).2.1)
   (case side7=>repeat (first|exact (Kd.R_reads' HO458.out).2.2|(with_reducible refine Kd.C_alloc ?_ _)|(with_reducible refine Kd.C_drewN ?_ _)|(with_reducible refine Kd.C_drew ?_)))
   (case side8=>exact (Kd.R_reads' HO458.out).2.1)
   rintro e w20 ⟨rfl,hb⟩
   refine ⟨_,rfl,?_⟩
   have n0_:=Aside0.mk (Kd.N_below (by (with_reducible repeat (first|apply Kd.N_alloc|apply Kd.N_drewN|apply Kd.N_drew));exact HO444.out) hb)
   have n1_:=Aside0.mk (Kd.R_below (by (with_reducible repeat (first|apply Kd.R_alloc|apply Kd.R_drewN|apply Kd.R_drew));exact HO447.out) hb)
   have n2_:=Aside0.mk (Kd.R_below (by (with_reducible repeat (first|apply Kd.R_alloc|apply Kd.R_drewN|apply Kd.R_drew));exact HO450.out) hb)
   have n3_:=Aside0.mk (Kd.R_below (by (with_reducible repeat (first|apply Kd.R_alloc|apply Kd.R_drewN|apply Kd.R_drew));exact HO455.out) hb)
   have n4_:=Aside0.mk (Kd.R_below (by (with_reducible repeat (first|apply Kd.R_alloc|apply Kd.R_drewN|apply Kd.R_drew));exact HO458.out) hb)
   have n5_:=Aside0.mk (blk_below (g:=gb452) (o:=.cells #[.slice Ao12 t445.length co12, .slice Ao14 t448.length co14, .int .i64 t451] 30 (0,0)) (by (with_reducible repeat (first|refine blk_drewN ?_ _|refine blk_drew ?_|refine blk_alloc ?_ _));exact BK452.out) hb)
   have n6_:=Aside0.mk (below_step (by repeat (first|(with_reducible first|exact HB.out|apply below_alloc|apply pw_below_drewN|apply below_drew1|refine below_set ?_ GE452.out)|exact HB.out)) hb)
   clear HO444
   clear HO447
   clear HO450
   clear HO455
   clear HO458
   clear BK452
   clear HB
   have HO444:=n0_
   have HO447:=n1_
   have HO450:=n2_
   have HO455:=n3_
   have HO458:=n4_
   have BK452:=n5_
   have HB:=n6_
   clear n0_ n1_ n2_ n3_ n4_ n5_ n6_
   (try clear hb)
   (try clear hb2)
   (try clear hk)
   (try clear hi)
   refine hK.out _ _ ⟨(blk_cell BK452.out 0).trans rfl,(blk_cell BK452.out 1).trans rfl,(blk_cell BK452.out 2).trans rfl⟩ (fun hHeld=>?_)
   clear hK K
   refine norm_ (a':=?_) ?_ ?_
   rotate_left
   ·show Act.put _ (some 23) _ = _
    simp only [Act.put,List.setIfInBounds_toArray,List.set_cons_zero,List.set_cons_succ,i64_w,i32_w]
    rfl
   refine pure_ (i:=5) (N:=some 24) (v:=?_) (a':=?_) #[true,true,true,true,true,true] rfl rfl (by kernel_rfl) (fun _ _ _ h=>h) (Or.inl ⟨by rfl,?_⟩) ?_ ?_
   rotate_left
   ·intro w'
    go_simp
    with_reducible rfl
   rotate_left
   ·simp only [Act.put,List.setIfInBounds_toArray,List.set_cons_zero,List.set_cons_succ,i64_w,i32_w]
    rfl
   refine done_ (by kernel_rfl) ?_
   try go_wp2_with (first|((with_reducible refine gate_dst (N:=25) rfl ?_);(try (refine gate_guard (by rfl) ?_;dsimp only));refine Kd.N_lit k30 _ 30 ?hg (N':=25) ?hd (xs:=([]:List (S30))) (inner:=[]) (ok:=(fun k_=>some k_ ≠ (.slice Ao9 t441.length co9:Value).ownBlock ∧ some k_ ≠ (.slice Ao12 t445.length co12:Value).ownBlock ∧ some k_ ≠ (.slice Ao14 t448.length co14:Value).ownBlock ∧ some k_ ≠ (.slice Ao18 t453.length co18:Value).ownBlock ∧ some k_ ≠ (.slice Ao19 t456.length co19:Value).ownBlock ∧ k_ ≠ gb452)) (okp:=(fun k_=>some k_ ≠ (.slice Ao9 t441.length co9:Value).ownBlock ∧ some k_ ≠ (.slice Ao12 t445.length co12:Value).ownBlock ∧ some k_ ≠ (.slice Ao14 t448.length co14:Value).ownBlock ∧ some k_ ≠ (.slice Ao18 t453.length co18:Value).ownBlock ∧ some k_ ≠ (.slice Ao19 t456.length co19:Value).ownBlock ∧ k_ ≠ gb452)) ?hr ?hp (fun _ hk=>hk) ((show ∀ k_,w20.heap.size ≤ k_ → (fun k_=>some k_ ≠ (.slice Ao9 t441.length co9:Value).ownBlock ∧ some k_ ≠ (.slice Ao12 t445.length co12:Value).ownBlock ∧ some k_ ≠ (.slice Ao14 t448.length co14:Value).ownBlock ∧ some k_ ≠ (.slice Ao18 t453.length co18:Value).ownBlock ∧ some k_ ≠ (.slice Ao19 t456.length co19:Value).ownBlock ∧ k_ ≠ gb452) k_ from fun k_ hk=>⟨Kd.fresh' (Kd.N_lt (by (with_reducible repeat (first|apply Kd.N_alloc|apply Kd.N_drewN|apply Kd.N_drew));exact HO444.out)) k_ hk,Kd.fresh' (Kd.R_lt (by (with_reducible repeat (first|apply Kd.R_alloc|apply Kd.R_drewN|apply Kd.R_drew));exact HO447.out)) k_ hk,Kd.fresh' (Kd.R_lt (by (with_reducible repeat (first|apply Kd.R_alloc|apply Kd.R_drewN|apply Kd.R_drew));exact HO450.out)) k_ hk,Kd.fresh' (Kd.R_lt (by (with_reducible repeat (first|apply Kd.R_alloc|apply Kd.R_drewN|apply Kd.R_drew));exact HO455.out)) k_ hk,Kd.fresh' (Kd.R_lt (by (with_reducible repeat (first|apply Kd.R_alloc|apply Kd.R_drewN|apply Kd.R_drew));exact HO458.out)) k_ hk,Kd.freshB (g:=gb452) (o:=.cells #[.slice Ao12 t445.length co12, .slice Ao14 t448.length co14, .int .i64 t451] 30 (0,0)) (by (with_reducible repeat (first|refine blk_drewN ?_ _|refine blk_drew ?_|refine blk_alloc ?_ _));exact BK452.out) k_ hk⟩) _ (Nat.le_refl _)) (Below.refl _ _) (Nat.le_refl _) (by simp) ?_;(case hd=>rfl);(case hg=>rfl);(case hr=>first|(go_simp;done)|(go_simp;rfl));(case hp=>exact (Reps.none _ _));intro v462 w21 ho22 hb hg_ hnew_;clear hg_ hnew_;(first|rw [← Ny461.out] at ho22|(simp only [Int.reduceToNat] at ho22;rw [← Ny461.out] at ho22));have n0_:=Aside0.mk (Kd.N_elder' (by (with_reducible repeat (first|apply Kd.N_alloc|apply Kd.N_drewN|apply Kd.N_drew));exact HO444.out) (Kd.N_base ho22) hb);have n1_:=Aside0.mk (Kd.R_below (by (with_reducible repeat (first|apply Kd.R_alloc|apply Kd.R_drewN|apply Kd.R_drew));exact HO447.out) hb);have n2_:=Aside0.mk (Kd.R_below (by (with_reducible repeat (first|apply Kd.R_alloc|apply Kd.R_drewN|apply Kd.R_drew));exact HO450.out) hb);have n3_:=Aside0.mk (Kd.R_below (by (with_reducible repeat (first|apply Kd.R_alloc|apply Kd.R_drewN|apply Kd.R_drew));exact HO455.out) hb);have n4_:=Aside0.mk (Kd.R_below (by (with_reducible repeat (first|apply Kd.R_alloc|apply Kd.R_drewN|apply Kd.R_drew));exact HO458.out) hb);have n5_:=Aside0.mk (Kd.N_lower ho22 (below_size (by repeat (first|(with_reducible first|exact HB.out|apply below_alloc|apply pw_below_drewN|apply below_drew1|refine below_set ?_ GE452.out)|exact HB.out))));have n6_:=Aside0.mk (blk_below (g:=gb452) (o:=.cells #[.slice Ao12 t445.length co12, .slice Ao14 t448.length co14, .int .i64 t451] 30 (0,0)) (by (with_reducible repeat (first|refine blk_drewN ?_ _|refine blk_drew ?_|refine blk_alloc ?_ _));exact BK452.out) hb);have n7_:=Aside0.mk (below_step (by repeat (first|(with_reducible first|exact HB.out|apply below_alloc|apply pw_below_drewN|apply below_drew1|refine below_set ?_ GE452.out)|exact HB.out)) hb);clear HO444;clear HO447;clear HO450;clear HO455;clear HO458;clear BK452;clear HB;have HO444:=n0_;have HO447:=n1_;have HO450:=n2_;have HO455:=n3_;have HO458:=n4_;have HO463:=n5_;have BK452:=n6_;have HB:=n7_;clear n0_ n1_ n2_ n3_ n4_ n5_ n6_ n7_;clear hb ho22))
   go_loopg [6,7] k (fun kq v6 v7 w'=>∃ (x6_1:List (S30)) (x7_1:Int),v7 = .int .i64 x7_1 ∧ Aside0 (laws_FnForOwn.l0 kq t441 t442 x6_1 x7_1 t445 t448 t451 = some r) ∧ Aside0 (kq ≤ k) ∧ Aside0 (Kd.N k30 30 w' w.heap.size (fun k_=>some k_ ≠ (v6:Value).ownBlock ∧ some k_ ≠ ((.slice Ao12 t445.length co12):Value).ownBlock ∧ some k_ ≠ ((.slice Ao14 t448.length co14):Value).ownBlock ∧ k_ ≠ gb452) (.slice Ao9 t441.length co9) t441) ∧ Aside0 (Kd.N k30 30 w' w.heap.size (fun k_=>some k_ ≠ ((.slice Ao9 t441.length co9):Value).ownBlock ∧ some k_ ≠ ((.slice Ao12 t445.length co12):Value).ownBlock ∧ some k_ ≠ ((.slice Ao14 t448.length co14):Value).ownBlock ∧ k_ ≠ gb452) v6 x6_1) ∧ Aside0 (Kd.R Kd.string 9 w' w.heap.size (fun _=>True) (.slice Ao12 t445.length co12) t445) ∧ Aside0 (Kd.R k57 57 w' w.heap.size (fun _=>True) (.slice Ao14 t448.length co14) t448) ∧ Aside0 (w'.heap[gb452]? = some (.cells #[(.slice Ao12 t445.length co12),(.slice Ao14 t448.length co14), .int .i64 t451] 30 (0,0))) ∧ Aside0 (Below w.heap.size w w'))
   case atStart=>exact ⟨(y461),(0),(by first|rfl|(simp;done)|(simp only [i64_w,i32_w];done)|(simp only [i64_w,i32_w];rfl)|(simp [*];done)|(simp [emp_bne,emp_beq];done)),H',⟨Nat.le_refl _⟩,⟨by (with_reducible repeat (first|apply Kd.N_alloc|apply Kd.N_drewN|apply Kd.N_drew));exact Kd.N_mono HO444.out (fun _ hk=>⟨hk.2,⟨hk.1.1.1.1,⟨hk.1.1.1.2.1,hk.1.1.1.2.2⟩⟩⟩)⟩,⟨by (with_reducible repeat (first|apply Kd.N_alloc|apply Kd.N_drewN|apply Kd.N_drew));exact Kd.N_mono HO463.out (fun _ hk=>⟨hk.1,⟨hk.2.1,⟨hk.2.2.1,hk.2.2.2.2.2⟩⟩⟩)⟩,⟨by (with_reducible repeat (first|apply Kd.R_alloc|apply Kd.R_drewN|apply Kd.R_drew));exact Kd.R_mono HO447.out (fun _ hk=>trivial)⟩,⟨by (with_reducible repeat (first|apply Kd.R_alloc|apply Kd.R_drewN|apply Kd.R_drew));exact Kd.R_mono HO450.out (fun _ hk=>trivial)⟩,⟨by (with_reducible repeat (first|refine blk_drewN ?_ _|refine blk_drew ?_|refine blk_alloc ?_ _));exact BK452.out⟩,⟨by repeat (first|(with_reducible first|exact HB.out|apply below_alloc|apply pw_below_drewN|apply below_drew1|refine below_set ?_ GE452.out)|exact HB.out)⟩⟩
   case round =>
    clear H'
    try clear c1
    try clear c2
    try clear c2b0
    try clear c2b1
    try clear p2
    try clear c7
    try clear c11
    try clear c12
    try clear c13
    try clear c14
    try clear hcz13_0
    try clear hcz13_1
    try clear hcz13_2
    try clear hfz13_0
    try clear hfz13_1
    try clear hfz13_2
    obtain ⟨x6_1,x7_1,rfl,HA,HK1,HO_3,HO_6,HO_453000,HO_453001,BK452,HB⟩:=hrel
    cases gk with
    | zero=>exact absurd HA.out (by simp [laws_FnForOwn.l0])
    | succ k1 =>
     have H:=HA.out
     clear HA
     simp only [laws_FnForOwn.l0] at H
     by_cases c23:x7_1 < (t441.length:Int)
     ·rw [if_pos c23] at H
      have c23b0:decide (x7_1 < (t441.length:Int)) = true:=decide_eq_true c23
      clear c23
      by_cases c24:0 ≤ x7_1
      ·rw [if_pos c24] at H
       have c24b0:decide (0 ≤ x7_1) = true:=decide_eq_true c24
       clear c24
       replace H:=Option.bind_eq_some_iff.mp H
       obtain ⟨t465,A250,H⟩:=H
       replace H:(if t465 = true then (if x6_1.length < 2513169434916 then (laws_FnForOwn.l0 k1 t441 t442 (x6_1 ++ [(⟨(rd_T30 t441 x7_1).f0,(rd_T30 t441 x7_1).f1,(rd_T30 t441 x7_1).f2⟩:S30)]) (wrap64 (x7_1 + 1)) t445 t448 t451) else (none)) else (laws_FnForOwn.l0 k1 t441 t442 x6_1 (wrap64 (x7_1 + 1)) t445 t448 t451)) = some r:=H
       have A25:=Aside0.mk A250
       clear A250
       by_cases c26:t465 = true
       ·subst c26
        have H1:(if x6_1.length < 2513169434916 then (laws_FnForOwn.l0 k1 t441 t442 (x6_1 ++ [(⟨(rd_T30 t441 x7_1).f0,(rd_T30 t441 x7_1).f1,(rd_T30 t441 x7_1).f2⟩:S30)]) (wrap64 (x7_1 + 1)) t445 t448 t451) else (none)) = some r:=by rw [if_pos rfl] at H;exact H
        clear H
        have H:=H1
        clear H1
        by_cases c27:x6_1.length < 2513169434916
        ·rw [if_pos c27] at H
         have LMc27:=Aside0.mk c27
         clear c27
         obtain ⟨y467,hy467⟩:∃ y_:List (S30),y_ = (x6_1 ++ [(⟨(rd_T30 t441 x7_1).f0,(rd_T30 t441 x7_1).f1,(rd_T30 t441 x7_1).f2⟩:S30)]):=⟨_,rfl⟩
         replace H:(laws_FnForOwn.l0 k1 t441 t442 y467 (wrap64 (x7_1 + 1)) t445 t448 t451) = some r:=by first|(rw [hy467];with_reducible exact H)|(have H2_:=(Option.bind_some _ _).symm.trans H;rw [hy467];with_reducible exact H2_)|(have H2_:=(Option.bind_some _ _).symm.trans H;with_reducible exact H2_)|with_reducible exact H|(rw [hy467];exact H)|exact H
         have Ny467:=Aside0.mk hy467
         clear hy467
         have H':=Aside0.mk H
         clear H
         have p464:0 ≤ (x7_1:Int):=of_decide_eq_true (by first|(with_reducible assumption)|assumption)
         have q464:x7_1 < (t441.length:Int):=of_decide_eq_true (by first|(with_reducible assumption)|assumption)
         obtain ⟨ad464,A464_0,c464_0,A464_1,c464_1,e464,hx464_0,hx464_1,hx464_2,hl464_0,hi464_0,hl464_1,hi464_1⟩:=at_T30 (Kd.N_reads' HO_3.out).2.2 x7_1 p464 q464
         cases e464
         obtain ⟨ce464,hce464,hMe464,hcc464⟩:=Kd.N_get HO_3.out z30 x7_1 p464 (by first|exact q464|exact of_decide_eq_true (by first|(with_reducible assumption)|assumption)|(have e_:=(Kd.N_reads' HO_3.out).1;omega))
         obtain ⟨ua464_0,uc464_0,ua464_1,uc464_1,rfl,ul464_0,ge464_0,ul464_1,ge464_1⟩:=k30_openF hMe464
         have hv464_0:=hcc464 0 _ rfl
         rw [Nat.add_zero] at hv464_0
         replace hv464_0:=Option.some.inj (hv464_0.symm.trans hx464_0)
         injection hv464_0 with hva_ hvn_ hvc_
         rw [hva_] at ge464_0
         rw [hvc_] at ul464_0
         have HL464_0:=Aside0.mk (show Kd.V Kd.string 9 _ w.heap.size _ _ ((rd_T30 t441 x7_1).f0) from Kd.V_mk ul464_0 ge464_0)
         clear hva_ hvn_ hvc_ ge464_0 ul464_0
         have hv464_1:=hcc464 1 _ rfl
         rw [add_field _ _ 1 (by omega)] at hv464_1
         replace hv464_1:=Option.some.inj (hv464_1.symm.trans hx464_1)
         injection hv464_1 with hva_ hvn_ hvc_
         rw [hva_] at ge464_1
         rw [hvc_] at ul464_1
         have HL464_1:=Aside0.mk (show Kd.V k57 57 _ w.heap.size _ _ ((rd_T30 t441 x7_1).f1) from Kd.V_mk ul464_1 ge464_1)
         clear hva_ hvn_ hvc_ ge464_1 ul464_1
         clear hcc464 hce464
         have HR464_0:=Aside0.mk hi464_0
         have HC464_0:=Aside0.mk hl464_0
         clear hi464_0 hl464_0
         have HR464_1:=Aside0.mk hi464_1
         have HC464_1:=Aside0.mk hl464_1
         clear hi464_1 hl464_1
         replace p464:=eq_true p464
         replace q464:=eq_true q464
         go_wp2_with (first|((with_reducible refine gate_callee (f:=16) rfl ?_);refine goesL_ (some 38) rfl rfl Try.func16 (by kernel_rfl) rfl #[.slice A464_0 ((rd_T30 t441 x7_1).f0).length c464_0, .string t442] rfl (by (try simp only [List.map_toArray,List.map_cons,List.map_nil]);first|done|rfl|(simp only [List.length_drop,List.length_take];rfl)) ?_;(with_reducible refine (laws_lpHas.calls k1 _ _ ((rd_T30 t441 x7_1).f0) t442 true _ ?side1 ?side2 A25.out).mono ?_);(case side1=>repeat (first|exact (by repeat (first|(with_reducible exact HR464_0.out)|(with_reducible refine Kd.C_alloc ?_ _)|(with_reducible refine Kd.C_drewN ?_ _)|(with_reducible refine Kd.C_drew ?_)|exact HR464_0.out))|(with_reducible refine Kd.C_alloc ?_ _)|(with_reducible refine Kd.C_drewN ?_ _)|(with_reducible refine Kd.C_drew ?_)));(case side2=>exact HC464_0.out);rintro e w' ⟨rfl,⟨nd,rfl⟩⟩;refine ⟨_,rfl,?_⟩;have p466:0 ≤ (x7_1:Int):=of_decide_eq_true (by first|(with_reducible assumption)|assumption);have q466:x7_1 < (t441.length:Int):=of_decide_eq_true (by first|(with_reducible assumption)|assumption);obtain ⟨ad466,A466_0,c466_0,A466_1,c466_1,e466,hx466_0,hx466_1,hx466_2,hl466_0,hi466_0,hl466_1,hi466_1⟩:=at_T30 (Kd.N_reads' HO_3.out).2.2 x7_1 p466 q466;obtain rfl:ad464 = ad466:=(by injection e466);obtain ⟨ce466,hce466,hMe466,hcc466⟩:=Kd.N_get HO_3.out z30 x7_1 p466 (by first|exact q466|exact of_decide_eq_true (by first|(with_reducible assumption)|assumption)|(have e_:=(Kd.N_reads' HO_3.out).1;omega));obtain ⟨ua466_0,uc466_0,ua466_1,uc466_1,rfl,ul466_0,ge466_0,ul466_1,ge466_1⟩:=k30_openF hMe466;have hv466_0:=hcc466 0 _ rfl;rw [Nat.add_zero] at hv466_0;replace hv466_0:=Option.some.inj (hv466_0.symm.trans hx466_0);injection hv466_0 with hva_ hvn_ hvc_;rw [hva_] at ge466_0;rw [hvc_] at ul466_0;have HL466_0:=Aside0.mk (show Kd.V Kd.string 9 _ w.heap.size _ _ ((rd_T30 t441 x7_1).f0) from Kd.V_mk ul466_0 ge466_0);clear hva_ hvn_ hvc_ ge466_0 ul466_0;have hv466_1:=hcc466 1 _ rfl;rw [add_field _ _ 1 (by omega)] at hv466_1;replace hv466_1:=Option.some.inj (hv466_1.symm.trans hx466_1);injection hv466_1 with hva_ hvn_ hvc_;rw [hva_] at ge466_1;rw [hvc_] at ul466_1;have HL466_1:=Aside0.mk (show Kd.V k57 57 _ w.heap.size _ _ ((rd_T30 t441 x7_1).f1) from Kd.V_mk ul466_1 ge466_1);clear hva_ hvn_ hvc_ ge466_1 ul466_1;clear hcc466 hce466;have HR466_0:=Aside0.mk hi466_0;have HC466_0:=Aside0.mk hl466_0;clear hi466_0 hl466_0;have HR466_1:=Aside0.mk hi466_1;have HC466_1:=Aside0.mk hl466_1;clear hi466_1 hl466_1;replace p466:=eq_true p466;replace q466:=eq_true q466;have ea_:=Option.some.inj (hx464_0.symm.trans hx466_0);injection ea_ with ea_ en_ ec_;subst ea_;subst ec_;clear en_;have ea_:=Option.some.inj (hx464_1.symm.trans hx466_1);injection ea_ with ea_ en_ ec_;subst ea_;subst ec_;clear en_)|((with_reducible refine gate_builtin (b:=.append) (xs:=#[.tmp 39, .tmp 44]) rfl ?_);(try (refine gate_guard (by rfl) ?_;dsimp only));at_builtin;refine Kd.N_append k30 (w0:=w) w.heap.size rfl (.tmp 39) (.tmp 44) 24 30 (.agg #[(.slice none 0 0),(.slice none 0 0),(.int .i64 0)]) 56 rfl Try.underlying24 info30 rfl (by decide) (by omega) u6 x6_1 (⟨(rd_T30 t441 x7_1).f0,(rd_T30 t441 x7_1).f1,(rd_T30 t441 x7_1).f2⟩:S30) [.slice A464_0 ((rd_T30 t441 x7_1).f0).length c464_0, .slice A464_1 ((rd_T30 t441 x7_1).f1).length c464_1, .int .i64 ((rd_T30 t441 x7_1).f2)] (fun k_=>some k_ ≠ (.slice (some ad464) t441.length co9:Value).ownBlock ∧ some k_ ≠ (.slice Ao12 t445.length co12:Value).ownBlock ∧ some k_ ≠ (.slice Ao14 t448.length co14:Value).ownBlock ∧ k_ ≠ gb452) (fun k_=>((fun k_=>some k_ ≠ (.slice (some ad464) t441.length co9:Value).ownBlock ∧ some k_ ≠ (.slice Ao12 t445.length co12:Value).ownBlock ∧ some k_ ≠ (.slice Ao14 t448.length co14:Value).ownBlock ∧ k_ ≠ gb452)) k_ ∧ some k_ ≠ (u6:Value).ownBlock) rfl rfl ?aP (fun _ hk=>hk) ?aF ?aO ?aB ?aS ?aL ?_;(case aP=>exact (k30_mkF _ _ (⟨(rd_T30 t441 x7_1).f0,(rd_T30 t441 x7_1).f1,(rd_T30 t441 x7_1).f2⟩:S30) (Kd.V_reads' (Kd.V_mono (ok':=(fun k_=>((fun k_=>some k_ ≠ (.slice (some ad464) t441.length co9:Value).ownBlock ∧ some k_ ≠ (.slice Ao12 t445.length co12:Value).ownBlock ∧ some k_ ≠ (.slice Ao14 t448.length co14:Value).ownBlock ∧ k_ ≠ gb452)) k_ ∧ some k_ ≠ (u6:Value).ownBlock)) (HL466_0.out) (fun k_ hk=>⟨⟨hk.2,⟨hk.1.2.1,⟨hk.1.2.2.1,hk.1.2.2.2⟩⟩⟩,hk.1.1⟩))).2.1 (Kd.V_F (Kd.V_mono (ok':=(fun k_=>((fun k_=>some k_ ≠ (.slice (some ad464) t441.length co9:Value).ownBlock ∧ some k_ ≠ (.slice Ao12 t445.length co12:Value).ownBlock ∧ some k_ ≠ (.slice Ao14 t448.length co14:Value).ownBlock ∧ k_ ≠ gb452)) k_ ∧ some k_ ≠ (u6:Value).ownBlock)) (HL466_0.out) (fun k_ hk=>⟨⟨hk.2,⟨hk.1.2.1,⟨hk.1.2.2.1,hk.1.2.2.2⟩⟩⟩,hk.1.1⟩))) (Kd.V_reads' (Kd.V_mono (ok':=(fun k_=>((fun k_=>some k_ ≠ (.slice (some ad464) t441.length co9:Value).ownBlock ∧ some k_ ≠ (.slice Ao12 t445.length co12:Value).ownBlock ∧ some k_ ≠ (.slice Ao14 t448.length co14:Value).ownBlock ∧ k_ ≠ gb452)) k_ ∧ some k_ ≠ (u6:Value).ownBlock)) (HL466_1.out) (fun k_ hk=>⟨⟨hk.2,⟨hk.1.2.1,⟨hk.1.2.2.1,hk.1.2.2.2⟩⟩⟩,hk.1.1⟩))).2.1 (Kd.V_F (Kd.V_mono (ok':=(fun k_=>((fun k_=>some k_ ≠ (.slice (some ad464) t441.length co9:Value).ownBlock ∧ some k_ ≠ (.slice Ao12 t445.length co12:Value).ownBlock ∧ some k_ ≠ (.slice Ao14 t448.length co14:Value).ownBlock ∧ k_ ≠ gb452)) k_ ∧ some k_ ≠ (u6:Value).ownBlock)) (HL466_1.out) (fun k_ hk=>⟨⟨hk.2,⟨hk.1.2.1,⟨hk.1.2.2.1,hk.1.2.2.2⟩⟩⟩,hk.1.1⟩)))));(case aB=>exact (by repeat (first|(with_reducible first|exact HB.out|apply below_alloc|apply pw_below_drewN|apply below_drew1|refine below_set ?_ GE452.out)|exact HB.out)));(case aF=>exact (fun k_ hk=>⟨Kd.fresh' (Kd.N_lt (by (with_reducible repeat (first|apply Kd.N_alloc|apply Kd.N_drewN|apply Kd.N_drew));exact HO_3.out)) k_ hk,Kd.fresh' (Kd.R_lt (by (with_reducible repeat (first|apply Kd.R_alloc|apply Kd.R_drewN|apply Kd.R_drew));exact HO_453000.out)) k_ hk,Kd.fresh' (Kd.R_lt (by (with_reducible repeat (first|apply Kd.R_alloc|apply Kd.R_drewN|apply Kd.R_drew));exact HO_453001.out)) k_ hk,Kd.freshB (g:=gb452) (o:=.cells #[.slice Ao12 t445.length co12, .slice Ao14 t448.length co14, .int .i64 t451] 30 (0,0)) (by (with_reducible repeat (first|refine blk_drewN ?_ _|refine blk_drew ?_|refine blk_alloc ?_ _));exact BK452.out) k_ hk⟩));(case aO=>exact (by (with_reducible repeat (first|apply Kd.N_alloc|apply Kd.N_drewN|apply Kd.N_drew));exact HO_6.out));(case aS=>exact (below_size (by repeat (first|(with_reducible first|exact HB.out|apply below_alloc|apply pw_below_drewN|apply below_drew1|refine below_set ?_ GE452.out)|exact HB.out))));(case aL=>have:=LMc27.out;omega);intro v468 w28 ho hb hg hat;rw [← Ny467.out] at ho;have n0_:=Aside0.mk (Kd.N_afterv (ok:=(fun k_=>some k_ ≠ (.slice Ao12 t445.length co12:Value).ownBlock ∧ some k_ ≠ (.slice Ao14 t448.length co14:Value).ownBlock ∧ k_ ≠ gb452)) (by (with_reducible repeat (first|apply Kd.N_alloc|apply Kd.N_drewN|apply Kd.N_drew));exact Kd.N_mono HO_3.out (fun _ hk=>⟨⟨hk.2.1,⟨hk.2.2.1,hk.2.2.2⟩⟩,hk.1⟩)) hg hat);have n1_:=Aside0.mk (Kd.R_over' (by (with_reducible repeat (first|apply Kd.R_alloc|apply Kd.R_drewN|apply Kd.R_drew));exact HO_453000.out) (Kd.N_typed (by (with_reducible repeat (first|apply Kd.N_alloc|apply Kd.N_drewN|apply Kd.N_drew));exact HO_6.out)) (by decide) hg);have n2_:=Aside0.mk (Kd.R_over' (by (with_reducible repeat (first|apply Kd.R_alloc|apply Kd.R_drewN|apply Kd.R_drew));exact HO_453001.out) (Kd.N_typed (by (with_reducible repeat (first|apply Kd.N_alloc|apply Kd.N_drewN|apply Kd.N_drew));exact HO_6.out)) (by decide) hg);have n3_:=Aside0.mk (blk_grown (g:=gb452) (o:=.cells #[.slice Ao12 t445.length co12, .slice Ao14 t448.length co14, .int .i64 t451] 30 (0,0)) (by (with_reducible repeat (first|refine blk_drewN ?_ _|refine blk_drew ?_|refine blk_alloc ?_ _));exact BK452.out) hg (Kd.N_away HO_6.out (fun _ hk=>hk.2.2.2)));have n4_:=Aside0.mk (Kd.V_afterv (ok:=(fun k_=>some k_ ≠ (.slice (some ad464) t441.length co9:Value).ownBlock ∧ some k_ ≠ (.slice Ao12 t445.length co12:Value).ownBlock ∧ some k_ ≠ (.slice Ao14 t448.length co14:Value).ownBlock ∧ k_ ≠ gb452)) (by (with_reducible repeat (first|apply Kd.V_alloc|apply Kd.V_drewN|apply Kd.V_drew));exact Kd.V_mono HL464_0.out (fun _ hk=>⟨⟨hk.2,⟨hk.1.2.1,⟨hk.1.2.2.1,hk.1.2.2.2⟩⟩⟩,hk.1.1⟩)) hg hat);have n5_:=Aside0.mk (Kd.V_afterv (ok:=(fun k_=>some k_ ≠ (.slice (some ad464) t441.length co9:Value).ownBlock ∧ some k_ ≠ (.slice Ao12 t445.length co12:Value).ownBlock ∧ some k_ ≠ (.slice Ao14 t448.length co14:Value).ownBlock ∧ k_ ≠ gb452)) (by (with_reducible repeat (first|apply Kd.V_alloc|apply Kd.V_drewN|apply Kd.V_drew));exact Kd.V_mono HL464_1.out (fun _ hk=>⟨⟨hk.2,⟨hk.1.2.1,⟨hk.1.2.2.1,hk.1.2.2.2⟩⟩⟩,hk.1.1⟩)) hg hat);have n6_:=Aside0.mk (Kd.V_afterv (ok:=(fun k_=>some k_ ≠ (.slice (some ad464) t441.length co9:Value).ownBlock ∧ some k_ ≠ (.slice Ao12 t445.length co12:Value).ownBlock ∧ some k_ ≠ (.slice Ao14 t448.length co14:Value).ownBlock ∧ k_ ≠ gb452)) (by (with_reducible repeat (first|apply Kd.V_alloc|apply Kd.V_drewN|apply Kd.V_drew));exact Kd.V_mono HL466_0.out (fun _ hk=>⟨⟨hk.2,⟨hk.1.2.1,⟨hk.1.2.2.1,hk.1.2.2.2⟩⟩⟩,hk.1.1⟩)) hg hat);have n7_:=Aside0.mk (Kd.V_afterv (ok:=(fun k_=>some k_ ≠ (.slice (some ad464) t441.length co9:Value).ownBlock ∧ some k_ ≠ (.slice Ao12 t445.length co12:Value).ownBlock ∧ some k_ ≠ (.slice Ao14 t448.length co14:Value).ownBlock ∧ k_ ≠ gb452)) (by (with_reducible repeat (first|apply Kd.V_alloc|apply Kd.V_drewN|apply Kd.V_drew));exact Kd.V_mono HL466_1.out (fun _ hk=>⟨⟨hk.2,⟨hk.1.2.1,⟨hk.1.2.2.1,hk.1.2.2.2⟩⟩⟩,hk.1.1⟩)) hg hat);have n8_:=Aside0.mk (hb);have n9_:=Aside0.mk (ho);clear HO_3;clear HO_453000;clear HO_453001;clear BK452;clear HL464_0;clear HL464_1;clear HL466_0;clear HL466_1;clear HB;clear HO_6;have HO_3:=n0_;have HO_453000:=n1_;have HO_453001:=n2_;have BK452:=n3_;have HL464_0:=n4_;have HL464_1:=n5_;have HL466_0:=n6_;have HL466_1:=n7_;have HB:=n8_;have HO469:=n9_;clear n0_ n1_ n2_ n3_ n4_ n5_ n6_ n7_ n8_ n9_;clear ho hb hg hat))
         go_roundg k1
         case measure=>have:=HK1.out;omega
         case rel=>exact ⟨(y467),(wrap64 (x7_1 + 1)),(by first|rfl|(simp;done)|(simp only [i64_w,i32_w];done)|(simp only [i64_w,i32_w];rfl)|(simp [*];done)|(simp [emp_bne,emp_beq];done)),H',⟨by have:=HK1.out;omega⟩,⟨by (with_reducible repeat (first|apply Kd.N_alloc|apply Kd.N_drewN|apply Kd.N_drew));exact Kd.N_mono HO_3.out (fun _ hk=>⟨hk.2,⟨hk.1.1,⟨hk.1.2.1,hk.1.2.2⟩⟩⟩)⟩,⟨by (with_reducible repeat (first|apply Kd.N_alloc|apply Kd.N_drewN|apply Kd.N_drew));exact HO469.out⟩,⟨by (with_reducible repeat (first|apply Kd.R_alloc|apply Kd.R_drewN|apply Kd.R_drew));exact HO_453000.out⟩,⟨by (with_reducible repeat (first|apply Kd.R_alloc|apply Kd.R_drewN|apply Kd.R_drew));exact HO_453001.out⟩,⟨by (with_reducible repeat (first|refine blk_drewN ?_ _|refine blk_drew ?_|refine blk_alloc ?_ _));exact BK452.out⟩,⟨by repeat (first|(with_reducible first|exact HB.out|apply below_alloc|apply pw_below_drewN|apply below_drew1|refine below_set ?_ GE452.out)|exact HB.out)⟩⟩
        ·rw [if_neg c27] at H
         exact absurd H (by simp)
       ·replace c26:=Bool.eq_false_iff.mpr c26
        subst c26
        have H1:(laws_FnForOwn.l0 k1 t441 t442 x6_1 (wrap64 (x7_1 + 1)) t445 t448 t451) = some r:=by rw [if_neg (show ¬ (false = true) by decide)] at H;exact H
        clear H
        have H:=H1
        clear H1
        have H':=Aside0.mk H
        clear H
        have p464:0 ≤ (x7_1:Int):=of_decide_eq_true (by first|(with_reducible assumption)|assumption)
        have q464:x7_1 < (t441.length:Int):=of_decide_eq_true (by first|(with_reducible assumption)|assumption)
        obtain ⟨ad464,A464_0,c464_0,A464_1,c464_1,e464,hx464_0,hx464_1,hx464_2,hl464_0,hi464_0,hl464_1,hi464_1⟩:=at_T30 (Kd.N_reads' HO_3.out).2.2 x7_1 p464 q464
        cases e464
        obtain ⟨ce464,hce464,hMe464,hcc464⟩:=Kd.N_get HO_3.out z30 x7_1 p464 (by first|exact q464|exact of_decide_eq_true (by first|(with_reducible assumption)|assumption)|(have e_:=(Kd.N_reads' HO_3.out).1;omega))
        obtain ⟨ua464_0,uc464_0,ua464_1,uc464_1,rfl,ul464_0,ge464_0,ul464_1,ge464_1⟩:=k30_openF hMe464
        have hv464_0:=hcc464 0 _ rfl
        rw [Nat.add_zero] at hv464_0
        replace hv464_0:=Option.some.inj (hv464_0.symm.trans hx464_0)
        injection hv464_0 with hva_ hvn_ hvc_
        rw [hva_] at ge464_0
        rw [hvc_] at ul464_0
        have HL464_0:=Aside0.mk (show Kd.V Kd.string 9 _ w.heap.size _ _ ((rd_T30 t441 x7_1).f0) from Kd.V_mk ul464_0 ge464_0)
        clear hva_ hvn_ hvc_ ge464_0 ul464_0
        have hv464_1:=hcc464 1 _ rfl
        rw [add_field _ _ 1 (by omega)] at hv464_1
        replace hv464_1:=Option.some.inj (hv464_1.symm.trans hx464_1)
        injection hv464_1 with hva_ hvn_ hvc_
        rw [hva_] at ge464_1
        rw [hvc_] at ul464_1
        have HL464_1:=Aside0.mk (show Kd.V k57 57 _ w.heap.size _ _ ((rd_T30 t441 x7_1).f1) from Kd.V_mk ul464_1 ge464_1)
        clear hva_ hvn_ hvc_ ge464_1 ul464_1
        clear hcc464 hce464
        have HR464_0:=Aside0.mk hi464_0
        have HC464_0:=Aside0.mk hl464_0
        clear hi464_0 hl464_0
        have HR464_1:=Aside0.mk hi464_1
        have HC464_1:=Aside0.mk hl464_1
        clear hi464_1 hl464_1
        replace p464:=eq_true p464
        replace q464:=eq_true q464
        go_wp2_with (first|((with_reducible refine gate_callee (f:=16) rfl ?_);refine goesL_ (some 38) rfl rfl Try.func16 (by kernel_rfl) rfl #[.slice A464_0 ((rd_T30 t441 x7_1).f0).length c464_0, .string t442] rfl (by (try simp only [List.map_toArray,List.map_cons,List.map_nil]);first|done|rfl|(simp only [List.length_drop,List.length_take];rfl)) ?_;(with_reducible refine (laws_lpHas.calls k1 _ _ ((rd_T30 t441 x7_1).f0) t442 false _ ?side1 ?side2 A25.out).mono ?_);(case side1=>repeat (first|exact (by repeat (first|(with_reducible exact HR464_0.out)|(with_reducible refine Kd.C_alloc ?_ _)|(with_reducible refine Kd.C_drewN ?_ _)|(with_reducible refine Kd.C_drew ?_)|exact HR464_0.out))|(with_reducible refine Kd.C_alloc ?_ _)|(with_reducible refine Kd.C_drewN ?_ _)|(with_reducible refine Kd.C_drew ?_)));(case side2=>exact HC464_0.out);rintro e w' ⟨rfl,⟨nd,rfl⟩⟩;refine ⟨_,rfl,?_⟩))
        go_roundg k1
        case measure=>have:=HK1.out;omega
        case rel=>exact ⟨(x6_1),(wrap64 (x7_1 + 1)),(by first|rfl|(simp;done)|(simp only [i64_w,i32_w];done)|(simp only [i64_w,i32_w];rfl)|(simp [*];done)|(simp [emp_bne,emp_beq];done)),H',⟨by have:=HK1.out;omega⟩,⟨by (with_reducible repeat (first|apply Kd.N_alloc|apply Kd.N_drewN|apply Kd.N_drew));exact HO_3.out⟩,⟨by (with_reducible repeat (first|apply Kd.N_alloc|apply Kd.N_drewN|apply Kd.N_drew));exact HO_6.out⟩,⟨by (with_reducible repeat (first|apply Kd.R_alloc|apply Kd.R_drewN|apply Kd.R_drew));exact HO_453000.out⟩,⟨by (with_reducible repeat (first|apply Kd.R_alloc|apply Kd.R_drewN|apply Kd.R_drew));exact HO_453001.out⟩,⟨by (with_reducible repeat (first|refine blk_drewN ?_ _|refine blk_drew ?_|refine blk_alloc ?_ _));exact BK452.out⟩,⟨by repeat (first|(with_reducible first|exact HB.out|apply below_alloc|apply pw_below_drewN|apply below_drew1|refine below_set ?_ GE452.out)|exact HB.out)⟩⟩
      ·rw [if_neg c24] at H
       exact absurd H (by simp)
     ·rw [if_neg c23] at H
      have c23b0:decide (x7_1 < (t441.length:Int)) = false:=decide_eq_false c23
      clear c23
      obtain ⟨y470,hy470⟩:∃ y_:List ByteArray,y_ = (([t442]:List ByteArray)):=⟨_,rfl⟩
      replace H:((laws_lpTexts.f k1 t445 y470).bind fun t473=>(if t473 = true then (if (x6_1.length:Int) = 0 then (some true) else ((impl_NoticeFor.f x6_1 t442).bind fun bt474=>((laws_lpGroup.f k1 bt474.1 bt474.2.1 bt474.2.2 t445 t448 t451).bind fun t481=>(some t481)))) else (none))) = some r:=by first|(rw [hy470];with_reducible exact H)|(have H2_:=(Option.bind_some _ _).symm.trans H;rw [hy470];with_reducible exact H2_)|(have H2_:=(Option.bind_some _ _).symm.trans H;with_reducible exact H2_)|with_reducible exact H|(rw [hy470];exact H)|exact H
      have Ny470:=Aside0.mk hy470
      clear hy470
      replace H:=Option.bind_eq_some_iff.mp H
      obtain ⟨t473,A290,H⟩:=H
      replace H:(if t473 = true then (if (x6_1.length:Int) = 0 then (some true) else ((impl_NoticeFor.f x6_1 t442).bind fun bt474=>((laws_lpGroup.f k1 bt474.1 bt474.2.1 bt474.2.2 t445 t448 t451).bind fun t481=>(some t481)))) else (none)) = some r:=H
      have A29:=Aside0.mk A290
      clear A290
      by_cases c30:t473 = true
      ·subst c30
       have H1:(if (x6_1.length:Int) = 0 then (some true) else ((impl_NoticeFor.f x6_1 t442).bind fun bt474=>((laws_lpGroup.f k1 bt474.1 bt474.2.1 bt474.2.2 t445 t448 t451).bind fun t481=>(some t481)))) = some r:=by rw [if_pos rfl] at H;exact H
       clear H
       have H:=H1
       clear H1
       by_cases c31:(x6_1.length:Int) = 0
       ·rw [if_pos c31] at H
        have c31b0:((x6_1.length:Int) == 0) = true:=beq_iff_eq.mpr c31
        have c31b1:((x6_1.length:Int) != 0) = false:=bne_eq_false_iff_eq.mpr c31
        clear c31
        obtain rfl:=Option.some.inj H
        try go_wp2
        have n0_:=Aside0.mk (Kd.N_drew HO_3.out)
        have n1_:=Aside0.mk (Kd.N_drew HO_6.out)
        have n2_:=Aside0.mk (Kd.R_drew HO_453000.out)
        have n3_:=Aside0.mk (Kd.R_drew HO_453001.out)
        have n4_:=Aside0.mk (blk_drew BK452.out)
        have n5_:=Aside0.mk (below_drew1 HB.out)
        clear HO_3
        clear HO_6
        clear HO_453000
        clear HO_453001
        clear BK452
        clear HB
        have HO_3:=n0_
        have HO_6:=n1_
        have HO_453000:=n2_
        have HO_453001:=n3_
        have BK452:=n4_
        have HB:=n5_
        clear n0_ n1_ n2_ n3_ n4_ n5_
        refine start_ (n:=18) (S:=fun w'=>w'.cell? ⟨gb452,0,none⟩ = some (.slice Ao12 t445.length co12) ∧ w'.cell? ⟨gb452,1,none⟩ = some (.slice Ao14 t448.length co14) ∧ w'.cell? ⟨gb452,2,none⟩ = some (.int .i64 t451)) (ds:=[]) #[false,false,false,false,false,false,false,false,false,false,false,false,false,false,false,false,false,false] (by kernel_rfl) rfl rfl ⟨(blk_cell BK452.out 0).trans rfl,(blk_cell BK452.out 1).trans rfl,(blk_cell BK452.out 2).trans rfl⟩ (fun hHeld=>?_);refine with_tabW laws_FnForOwn.tab13 laws_FnForOwn.bits13 (fun HT_ HW_=>?_)
        generalize wr.drew = w32 at HO_3 HO_6 HO_453000 HO_453001 BK452 HB hHeld ⊢
        refine pure_ (i:=0) (N:=some 46) (v:=?_) (a':=?_) #[true,false,false,false,false,false,false,false,false,false,false,false,false,false,false,false,false,false] rfl rfl (any_of HT_.out (by kernel_rfl)) (fun _ _ _ h=>h) (Or.inl ⟨by rfl,?_⟩) ?_ ?_
        rotate_left
        ·intro w'
         go_simp
         with_reducible rfl
        rotate_left
        ·simp only [Act.put,List.setIfInBounds_toArray,List.set_cons_zero,List.set_cons_succ,i64_w,i32_w]
         rfl
        refine pure_ (i:=2) (N:=some 48) (v:=?_) (a':=?_) #[true,false,true,false,false,false,false,false,false,false,false,false,false,false,false,false,false,false] rfl rfl (any_of HT_.out (by kernel_rfl)) (fun _ _ _ h=>h) (Or.inl ⟨by rfl,?_⟩) ?_ ?_
        rotate_left
        ·intro w'
         go_simp
         with_reducible rfl
        rotate_left
        ·simp only [Act.put,List.setIfInBounds_toArray,List.set_cons_zero,List.set_cons_succ,i64_w,i32_w]
         rfl
        refine take_ (i:=1) (N:=some 47) (v:=?_) (a':=?_) #[true,true,true,false,false,false,false,false,false,false,false,false,false,false,false,false,false,false] rfl rfl (take_ofW HT_.out HW_.out (by kernel_rfl)) (fun _ _ _ h=>h) (Or.inl ⟨by rfl,?_⟩) hHeld ?_ ?_
        rotate_left
        ·rintro w' ⟨s0,s1,s2⟩
         go_simp
         with_reducible rfl
        rotate_left
        ·simp only [Act.put,List.setIfInBounds_toArray,List.set_cons_zero,List.set_cons_succ,i64_w,i32_w]
         rfl
        refine one_ (i:=3) (N:=some 49) #[true,true,true,true,false,false,false,false,false,false,false,false,false,false,false,false,false,false] rfl rfl (one_of HT_.out (by kernel_rfl)) (by decide) (fun K hK=>?_)
        refine Kd.R_lit_step Kd.string _ 9 ?hg (N:=49) ?hd (xs:=([t442]:List ByteArray)) (inner:=[.string t442]) (ok:=fun _=>True) (okp:=fun _=>True) ?hr ?hp (fun _ hk=>hk) trivial (Below.refl _ _) (Nat.le_refl _) (by simp) ?_;(case hd=>rfl);(case hg=>rfl);(case hr=>first|(go_simp;done)|(go_simp;rfl));(case hp=>exact (Reps.one (show Kd.M Kd.string _ _ _ t442 [.string t442] from rfl) (Reps.none _ _)))
        intro v471 w33 ho34 hb hg_ hnew_
        clear hg_ hnew_
        (first|rw [← Ny470.out] at ho34|(simp only [Int.reduceToNat] at ho34;rw [← Ny470.out] at ho34))
        have n0_:=Aside0.mk (Kd.N_elder' (by (with_reducible repeat (first|apply Kd.N_alloc|apply Kd.N_drewN|apply Kd.N_drew));exact HO_3.out) (Kd.R_base ho34) hb)
        have n1_:=Aside0.mk (Kd.N_elder' (by (with_reducible repeat (first|apply Kd.N_alloc|apply Kd.N_drewN|apply Kd.N_drew));exact HO_6.out) (Kd.R_base ho34) hb)
        have n2_:=Aside0.mk (Kd.R_elder' (by (with_reducible repeat (first|apply Kd.R_alloc|apply Kd.R_drewN|apply Kd.R_drew));exact HO_453000.out) (Kd.R_base ho34) hb)
        have n3_:=Aside0.mk (Kd.R_below (by (with_reducible repeat (first|apply Kd.R_alloc|apply Kd.R_drewN|apply Kd.R_drew));exact HO_453001.out) hb)
        have n4_:=Aside0.mk (Kd.R_lower (Kd.R_new' ho34 (Kd.R_lt (by (with_reducible repeat (first|apply Kd.R_alloc|apply Kd.R_drewN|apply Kd.R_drew));exact HO_453000.out))) (below_size (by repeat (first|(with_reducible first|exact HB.out|apply below_alloc|apply pw_below_drewN|apply below_drew1|refine below_set ?_ GE452.out)|exact HB.out))))
        have n5_:=Aside0.mk (blk_below (g:=gb452) (o:=.cells #[.slice Ao12 t445.length co12, .slice Ao14 t448.length co14, .int .i64 t451] 30 (0,0)) (by (with_reducible repeat (first|refine blk_drewN ?_ _|refine blk_drew ?_|refine blk_alloc ?_ _));exact BK452.out) hb)
        have n6_:=Aside0.mk (below_step (by repeat (first|(with_reducible first|exact HB.out|apply below_alloc|apply pw_below_drewN|apply below_drew1|refine below_set ?_ GE452.out)|exact HB.out)) hb)
        clear HO_3
        clear HO_6
        clear HO_453000
        clear HO_453001
        clear BK452
        clear HB
        have HO_3:=n0_
        have HO_6:=n1_
        have HO_453000:=n2_
        have HO_453001:=n3_
        have HO472:=n4_
        have BK452:=n5_
        have HB:=n6_
        clear n0_ n1_ n2_ n3_ n4_ n5_ n6_
        clear hb ho34
        obtain ⟨Ao35,co35,eo35⟩:=Kd.R_slice HO472.out
        (first|subst eo35|(injection eo35 with f1_ f2_ f3_;have f4_:=f1_.symm;have f5_:=f3_.symm;clear f1_ f2_ f3_;subst f4_;subst f5_))
        refine hK.out _ _ ⟨(blk_cell BK452.out 0).trans rfl,(blk_cell BK452.out 1).trans rfl,(blk_cell BK452.out 2).trans rfl⟩ (fun hHeld=>?_)
        clear hK K
        refine norm_ (a':=?_) ?_ ?_
        rotate_left
        ·show Act.put _ (some 49) _ = _
         simp only [Act.put,List.setIfInBounds_toArray,List.set_cons_zero,List.set_cons_succ,i64_w,i32_w]
         rfl
        refine one_ (i:=4) (N:=some 50) #[true,true,true,true,true,false,false,false,false,false,false,false,false,false,false,false,false,false] rfl rfl (one_of HT_.out (by kernel_rfl)) (by decide) (fun K hK=>?_)
        refine goes_ Try.func17 (by kernel_rfl) rfl #[.slice Ao12 t445.length co12, .slice Ao35 y470.length co35] (by rfl) rfl rfl (by (try simp only [List.map_toArray,List.map_cons,List.map_nil]);first|done|rfl|(simp only [List.length_drop,List.length_take];rfl)) ?_
        with_reducible refine (laws_lpTexts.calls k1 _ _ t445 _ _ y470 true _ ?side1 ?side2 ?side3 ?side4 A29.out).mono ?_
        (case side1=>repeat (first|exact (Kd.R_reads' HO_453000.out).2.2|(with_reducible refine Kd.C_alloc ?_ _)|(with_reducible refine Kd.C_drewN ?_ _)|(with_reducible refine Kd.C_drew ?_)))
        (case side2=>exact (Kd.R_reads' HO_453000.out).2.1)
        (case side3=>repeat (first|exact (Kd.R_reads' HO472.out).2.2|(with_reducible refine Kd.C_alloc ?_ _)|(with_reducible refine Kd.C_drewN ?_ _)|(with_reducible refine Kd.C_drew ?_)))
        (case side4=>exact (Kd.R_reads' HO472.out).2.1)
        rintro e w' ⟨rfl,⟨nd,rfl⟩⟩
        refine ⟨_,rfl,?_⟩
        obtain ⟨Ao36,co36,eo36⟩:=Kd.N_slice HO_6.out
        (first|subst eo36|(injection eo36 with f1_ f2_ f3_;have f4_:=f1_.symm;have f5_:=f3_.symm;clear f1_ f2_ f3_;subst f4_;subst f5_))
        refine hK.out _ _ ⟨(blk_cell BK452.out 0).trans rfl,(blk_cell BK452.out 1).trans rfl,(blk_cell BK452.out 2).trans rfl⟩ (fun hHeld=>?_)
        clear hK K
        refine norm_ (a':=?_) ?_ ?_
        rotate_left
        ·show Act.put _ (some 50) _ = _
         simp only [Act.put,List.setIfInBounds_toArray,List.set_cons_zero,List.set_cons_succ,i64_w,i32_w]
         rfl
        refine pure_ (i:=5) (N:=some 51) (v:=?_) (a':=?_) #[true,true,true,true,true,true,false,false,false,false,false,false,false,false,false,false,false,false] rfl rfl (any_of HT_.out (by kernel_rfl)) (fun _ _ _ h=>h) (Or.inl ⟨by rfl,?_⟩) ?_ ?_
        rotate_left
        ·intro w'
         go_simp
         with_reducible rfl
        rotate_left
        ·simp only [Act.put,List.setIfInBounds_toArray,List.set_cons_zero,List.set_cons_succ,i64_w,i32_w]
         rfl
        refine pure_ (i:=6) (N:=some 52) (v:=?_) (a':=?_) #[true,true,true,true,true,true,true,false,false,false,false,false,false,false,false,false,false,false] rfl rfl (any_of HT_.out (by kernel_rfl)) (fun _ _ _ h=>h) (Or.inl ⟨by rfl,?_⟩) ?_ ?_
        rotate_left
        ·intro w'
         go_simp
         with_reducible rfl
        rotate_left
        ·simp only [Act.put,List.setIfInBounds_toArray,List.set_cons_zero,List.set_cons_succ,i64_w,i32_w]
         rfl
        refine pure_ (i:=7) (N:=some 53) (v:=?_) (a':=?_) #[true,true,true,true,true,true,true,true,false,false,false,false,false,false,false,false,false,false] rfl rfl (any_of HT_.out (by kernel_rfl)) (fun _ _ _ h=>h) (Or.inl ⟨by rfl,?_⟩) ?_ ?_
        rotate_left
        ·intro w'
         go_simp
         with_reducible rfl
        rotate_left
        ·simp only [Act.put,List.setIfInBounds_toArray,List.set_cons_zero,List.set_cons_succ,i64_w,i32_w]
         rfl
        refine pure_ (i:=8) (N:=some 54) (v:=?_) (a':=?_) #[true,true,true,true,true,true,true,true,true,false,false,false,false,false,false,false,false,false] rfl rfl (any_of HT_.out (by kernel_rfl)) (fun _ _ _ h=>h) (Or.inl ⟨by rfl,?_⟩) ?_ ?_
        rotate_left
        ·intro w'
         go_simp
         with_reducible rfl
        rotate_left
        ·simp only [Act.put,List.setIfInBounds_toArray,List.set_cons_zero,List.set_cons_succ,i64_w,i32_w]
         rfl
        refine pure_ (i:=9) (N:=some 55) (v:=?_) (a':=?_) #[true,true,true,true,true,true,true,true,true,true,false,false,false,false,false,false,false,false] rfl rfl (any_of HT_.out (by kernel_rfl)) (fun _ _ _ h=>h) (Or.inl ⟨by rfl,?_⟩) ?_ ?_
        rotate_left
        ·intro w'
         go_simp
         with_reducible rfl
        rotate_left
        ·simp only [Act.put,List.setIfInBounds_toArray,List.set_cons_zero,List.set_cons_succ,i64_w,i32_w]
         rfl
        refine pure_ (i:=10) (N:=some 56) (v:=undef) (a':=?_) #[true,true,true,true,true,true,true,true,true,true,true,false,false,false,false,false,false,false] rfl rfl (any_of HT_.out (by kernel_rfl)) (fun _ _ _ h=>h) (Or.inr ⟨by rfl,rfl⟩) ?_ ?_
        rotate_left
        ·simp only [Act.put,List.setIfInBounds_toArray,List.set_cons_zero,List.set_cons_succ,i64_w,i32_w]
         rfl
        refine pure_ (i:=11) (N:=some 57) (v:=undef) (a':=?_) #[true,true,true,true,true,true,true,true,true,true,true,true,false,false,false,false,false,false] rfl rfl (any_of HT_.out (by kernel_rfl)) (fun _ _ _ h=>h) (Or.inr ⟨by rfl,rfl⟩) ?_ ?_
        rotate_left
        ·simp only [Act.put,List.setIfInBounds_toArray,List.set_cons_zero,List.set_cons_succ,i64_w,i32_w]
         rfl
        refine pure_ (i:=12) (N:=some 58) (v:=undef) (a':=?_) #[true,true,true,true,true,true,true,true,true,true,true,true,true,false,false,false,false,false] rfl rfl (any_of HT_.out (by kernel_rfl)) (fun _ _ _ h=>h) (Or.inr ⟨by rfl,rfl⟩) ?_ ?_
        rotate_left
        ·simp only [Act.put,List.setIfInBounds_toArray,List.set_cons_zero,List.set_cons_succ,i64_w,i32_w]
         rfl
        refine pure_ (i:=13) (N:=some 59) (v:=undef) (a':=?_) #[true,true,true,true,true,true,true,true,true,true,true,true,true,true,false,false,false,false] rfl rfl (any_of HT_.out (by kernel_rfl)) (fun _ _ _ h=>h) (Or.inr ⟨by rfl,rfl⟩) ?_ ?_
        rotate_left
        ·simp only [Act.put,List.setIfInBounds_toArray,List.set_cons_zero,List.set_cons_succ,i64_w,i32_w]
         rfl
        refine pure_ (i:=14) (N:=some 60) (v:=undef) (a':=?_) #[true,true,true,true,true,true,true,true,true,true,true,true,true,true,true,false,false,false] rfl rfl (any_of HT_.out (by kernel_rfl)) (fun _ _ _ h=>h) (Or.inr ⟨by rfl,rfl⟩) ?_ ?_
        rotate_left
        ·simp only [Act.put,List.setIfInBounds_toArray,List.set_cons_zero,List.set_cons_succ,i64_w,i32_w]
         rfl
        refine pure_ (i:=15) (N:=some 61) (v:=?_) (a':=?_) #[true,true,true,true,true,true,true,true,true,true,true,true,true,true,true,true,false,false] rfl rfl (any_of HT_.out (by kernel_rfl)) (fun _ _ _ h=>h) (Or.inl ⟨by rfl,?_⟩) ?_ ?_
        rotate_left
        ·intro w'
         go_simp
         with_reducible rfl
        rotate_left
        ·simp only [Act.put,List.setIfInBounds_toArray,List.set_cons_zero,List.set_cons_succ,i64_w,i32_w]
         rfl
        refine pure_ (i:=16) (N:=some 62) (v:=?_) (a':=?_) #[true,true,true,true,true,true,true,true,true,true,true,true,true,true,true,true,true,false] rfl rfl (any_of HT_.out (by kernel_rfl)) (fun _ _ _ h=>h) (Or.inl ⟨by rfl,?_⟩) ?_ ?_
        rotate_left
        ·intro w'
         go_simp
         with_reducible rfl
        rotate_left
        ·simp only [Act.put,List.setIfInBounds_toArray,List.set_cons_zero,List.set_cons_succ,i64_w,i32_w]
         rfl
        refine pure_ (i:=17) (N:=some 2) (v:=?_) (a':=?_) #[true,true,true,true,true,true,true,true,true,true,true,true,true,true,true,true,true,true] rfl rfl (any_of HT_.out (by kernel_rfl)) (fun _ _ _ h=>h) (Or.inl ⟨by rfl,?_⟩) ?_ ?_
        rotate_left
        ·intro w'
         go_simp
         with_reducible rfl
        rotate_left
        ·simp only [Act.put,List.setIfInBounds_toArray,List.set_cons_zero,List.set_cons_succ,i64_w,i32_w]
         rfl
        refine done_ (done_of HT_.out (by kernel_rfl)) ?_
        try go_wp2
        go_ret
        exact ⟨by first|rfl|(simp <;> rfl)|(simp [*] <;> rfl),by repeat (first|(with_reducible first|exact HB.out|apply below_alloc|apply pw_below_drewN|apply below_drew1|refine below_set ?_ GE452.out)|exact HB.out)⟩
       ·rw [if_neg c31] at H
        have c31b0:((x6_1.length:Int) == 0) = false:=beq_eq_false_iff_ne.mpr c31
        have c31b1:((x6_1.length:Int) != 0) = true:=bne_iff_ne.mpr c31
        have c31b2:¬ (x6_1 = []):=fun h_=>c31 (by rw [h_];rfl)
        replace H:=Option.bind_eq_some_iff.mp H
        obtain ⟨⟨t474,t477,t480⟩,A370,H⟩:=H
        replace H:((laws_lpGroup.f k1 t474 t477 t480 t445 t448 t451).bind fun t481=>(some t481)) = some r:=H
        have A37:=Aside0.mk A370
        clear A370
        replace H:=Option.bind_eq_some_iff.mp H
        obtain ⟨t481,A380,H⟩:=H
        replace H:(some t481) = some r:=H
        have A38:=Aside0.mk A380
        clear A380
        obtain rfl:=Option.some.inj H
        try go_wp2
        have n0_:=Aside0.mk (Kd.N_drew HO_3.out)
        have n1_:=Aside0.mk (Kd.N_drew HO_6.out)
        have n2_:=Aside0.mk (Kd.R_drew HO_453000.out)
        have n3_:=Aside0.mk (Kd.R_drew HO_453001.out)
        have n4_:=Aside0.mk (blk_drew BK452.out)
        have n5_:=Aside0.mk (below_drew1 HB.out)
        clear HO_3
        clear HO_6
        clear HO_453000
        clear HO_453001
        clear BK452
        clear HB
        have HO_3:=n0_
        have HO_6:=n1_
        have HO_453000:=n2_
        have HO_453001:=n3_
        have BK452:=n4_
        have HB:=n5_
        clear n0_ n1_ n2_ n3_ n4_ n5_
        refine start_ (n:=18) (S:=fun w'=>w'.cell? ⟨gb452,0,none⟩ = some (.slice Ao12 t445.length co12) ∧ w'.cell? ⟨gb452,1,none⟩ = some (.slice Ao14 t448.length co14) ∧ w'.cell? ⟨gb452,2,none⟩ = some (.int .i64 t451)) (ds:=[]) #[false,false,false,false,false,false,false,false,false,false,false,false,false,false,false,false,false,false] (by kernel_rfl) rfl rfl ⟨(blk_cell BK452.out 0).trans rfl,(blk_cell BK452.out 1).trans rfl,(blk_cell BK452.out 2).trans rfl⟩ (fun hHeld=>?_);refine with_tabW laws_FnForOwn.tab13 laws_FnForOwn.bits13 (fun HT_ HW_=>?_)
        generalize wr.drew = w39 at HO_3 HO_6 HO_453000 HO_453001 BK452 HB hHeld ⊢
        refine pure_ (i:=0) (N:=some 46) (v:=?_) (a':=?_) #[true,false,false,false,false,false,false,false,false,false,false,false,false,false,false,false,false,false] rfl rfl (any_of HT_.out (by kernel_rfl)) (fun _ _ _ h=>h) (Or.inl ⟨by rfl,?_⟩) ?_ ?_
        rotate_left
        ·intro w'
         go_simp
         with_reducible rfl
        rotate_left
        ·simp only [Act.put,List.setIfInBounds_toArray,List.set_cons_zero,List.set_cons_succ,i64_w,i32_w]
         rfl
        refine pure_ (i:=2) (N:=some 48) (v:=?_) (a':=?_) #[true,false,true,false,false,false,false,false,false,false,false,false,false,false,false,false,false,false] rfl rfl (any_of HT_.out (by kernel_rfl)) (fun _ _ _ h=>h) (Or.inl ⟨by rfl,?_⟩) ?_ ?_
        rotate_left
        ·intro w'
         go_simp
         with_reducible rfl
        rotate_left
        ·simp only [Act.put,List.setIfInBounds_toArray,List.set_cons_zero,List.set_cons_succ,i64_w,i32_w]
         rfl
        refine take_ (i:=1) (N:=some 47) (v:=?_) (a':=?_) #[true,true,true,false,false,false,false,false,false,false,false,false,false,false,false,false,false,false] rfl rfl (take_ofW HT_.out HW_.out (by kernel_rfl)) (fun _ _ _ h=>h) (Or.inl ⟨by rfl,?_⟩) hHeld ?_ ?_
        rotate_left
        ·rintro w' ⟨s0,s1,s2⟩
         go_simp
         with_reducible rfl
        rotate_left
        ·simp only [Act.put,List.setIfInBounds_toArray,List.set_cons_zero,List.set_cons_succ,i64_w,i32_w]
         rfl
        refine one_ (i:=3) (N:=some 49) #[true,true,true,true,false,false,false,false,false,false,false,false,false,false,false,false,false,false] rfl rfl (one_of HT_.out (by kernel_rfl)) (by decide) (fun K hK=>?_)
        refine Kd.R_lit_step Kd.string _ 9 ?hg (N:=49) ?hd (xs:=([t442]:List ByteArray)) (inner:=[.string t442]) (ok:=fun _=>True) (okp:=fun _=>True) ?hr ?hp (fun _ hk=>hk) trivial (Below.refl _ _) (Nat.le_refl _) (by simp) ?_;(case hd=>rfl);(case hg=>rfl);(case hr=>first|(go_simp;done)|(go_simp;rfl));(case hp=>exact (Reps.one (show Kd.M Kd.string _ _ _ t442 [.string t442] from rfl) (Reps.none _ _)))
        intro v471 w40 ho41 hb hg_ hnew_
        clear hg_ hnew_
        (first|rw [← Ny470.out] at ho41|(simp only [Int.reduceToNat] at ho41;rw [← Ny470.out] at ho41))
        have n0_:=Aside0.mk (Kd.N_elder' (by (with_reducible repeat (first|apply Kd.N_alloc|apply Kd.N_drewN|apply Kd.N_drew));exact HO_3.out) (Kd.R_base ho41) hb)
        have n1_:=Aside0.mk (Kd.N_elder' (by (with_reducible repeat (first|apply Kd.N_alloc|apply Kd.N_drewN|apply Kd.N_drew));exact HO_6.out) (Kd.R_base ho41) hb)
        have n2_:=Aside0.mk (Kd.R_elder' (by (with_reducible repeat (first|apply Kd.R_alloc|apply Kd.R_drewN|apply Kd.R_drew));exact HO_453000.out) (Kd.R_base ho41) hb)
        have n3_:=Aside0.mk (Kd.R_below (by (with_reducible repeat (first|apply Kd.R_alloc|apply Kd.R_drewN|apply Kd.R_drew));exact HO_453001.out) hb)
        have n4_:=Aside0.mk (Kd.R_lower (Kd.R_new' ho41 (Kd.R_lt (by (with_reducible repeat (first|apply Kd.R_alloc|apply Kd.R_drewN|apply Kd.R_drew));exact HO_453000.out))) (below_size (by repeat (first|(with_reducible first|exact HB.out|apply below_alloc|apply pw_below_drewN|apply below_drew1|refine below_set ?_ GE452.out)|exact HB.out))))
        have n5_:=Aside0.mk (blk_below (g:=gb452) (o:=.cells #[.slice Ao12 t445.length co12, .slice Ao14 t448.length co14, .int .i64 t451] 30 (0,0)) (by (with_reducible repeat (first|refine blk_drewN ?_ _|refine blk_drew ?_|refine blk_alloc ?_ _));exact BK452.out) hb)
        have n6_:=Aside0.mk (below_step (by repeat (first|(with_reducible first|exact HB.out|apply below_alloc|apply pw_below_drewN|apply below_drew1|refine below_set ?_ GE452.out)|exact HB.out)) hb)
        clear HO_3
        clear HO_6
        clear HO_453000
        clear HO_453001
        clear BK452
        clear HB
        have HO_3:=n0_
        have HO_6:=n1_
        have HO_453000:=n2_
        have HO_453001:=n3_
        have HO472:=n4_
        have BK452:=n5_
        have HB:=n6_
        clear n0_ n1_ n2_ n3_ n4_ n5_ n6_
        clear hb ho41
        obtain ⟨Ao42,co42,eo42⟩:=Kd.R_slice HO472.out
        (first|subst eo42|(injection eo42 with f1_ f2_ f3_;have f4_:=f1_.symm;have f5_:=f3_.symm;clear f1_ f2_ f3_;subst f4_;subst f5_))
        refine hK.out _ _ ⟨(blk_cell BK452.out 0).trans rfl,(blk_cell BK452.out 1).trans rfl,(blk_cell BK452.out 2).trans rfl⟩ (fun hHeld=>?_)
        clear hK K
        refine norm_ (a':=?_) ?_ ?_
        rotate_left
        ·show Act.put _ (some 49) _ = _
         simp only [Act.put,List.setIfInBounds_toArray,List.set_cons_zero,List.set_cons_succ,i64_w,i32_w]
         rfl
        refine one_ (i:=4) (N:=some 50) #[true,true,true,true,true,false,false,false,false,false,false,false,false,false,false,false,false,false] rfl rfl (one_of HT_.out (by kernel_rfl)) (by decide) (fun K hK=>?_)
        refine goes_ Try.func17 (by kernel_rfl) rfl #[.slice Ao12 t445.length co12, .slice Ao42 y470.length co42] (by rfl) rfl rfl (by (try simp only [List.map_toArray,List.map_cons,List.map_nil]);first|done|rfl|(simp only [List.length_drop,List.length_take];rfl)) ?_
        with_reducible refine (laws_lpTexts.calls k1 _ _ t445 _ _ y470 true _ ?side1 ?side2 ?side3 ?side4 A29.out).mono ?_
        (case side1=>repeat (first|exact (Kd.R_reads' HO_453000.out).2.2|(with_reducible refine Kd.C_alloc ?_ _)|(with_reducible refine Kd.C_drewN ?_ _)|(with_reducible refine Kd.C_drew ?_)))
        (case side2=>exact (Kd.R_reads' HO_453000.out).2.1)
        (case side3=>repeat (first|exact (Kd.R_reads' HO472.out).2.2|(with_reducible refine Kd.C_alloc ?_ _)|(with_reducible refine Kd.C_drewN ?_ _)|(with_reducible refine Kd.C_drew ?_)))
        (case side4=>exact (Kd.R_reads' HO472.out).2.1)
        rintro e w' ⟨rfl,⟨nd,rfl⟩⟩
        refine ⟨_,rfl,?_⟩
        obtain ⟨Ao43,co43,eo43⟩:=Kd.N_slice HO_6.out
        (first|subst eo43|(injection eo43 with f1_ f2_ f3_;have f4_:=f1_.symm;have f5_:=f3_.symm;clear f1_ f2_ f3_;subst f4_;subst f5_))
        refine hK.out _ _ ⟨(blk_cell BK452.out 0).trans rfl,(blk_cell BK452.out 1).trans rfl,(blk_cell BK452.out 2).trans rfl⟩ (fun hHeld=>?_)
        clear hK K
        refine norm_ (a':=?_) ?_ ?_
        rotate_left
        ·show Act.put _ (some 50) _ = _
         simp only [Act.put,List.setIfInBounds_toArray,List.set_cons_zero,List.set_cons_succ,i64_w,i32_w]
         rfl
        refine pure_ (i:=5) (N:=some 51) (v:=?_) (a':=?_) #[true,true,true,true,true,true,false,false,false,false,false,false,false,false,false,false,false,false] rfl rfl (any_of HT_.out (by kernel_rfl)) (fun _ _ _ h=>h) (Or.inl ⟨by rfl,?_⟩) ?_ ?_
        rotate_left
        ·intro w'
         go_simp
         with_reducible rfl
        rotate_left
        ·simp only [Act.put,List.setIfInBounds_toArray,List.set_cons_zero,List.set_cons_succ,i64_w,i32_w]
         rfl
        refine pure_ (i:=6) (N:=some 52) (v:=?_) (a':=?_) #[true,true,true,true,true,true,true,false,false,false,false,false,false,false,false,false,false,false] rfl rfl (any_of HT_.out (by kernel_rfl)) (fun _ _ _ h=>h) (Or.inl ⟨by rfl,?_⟩) ?_ ?_
        rotate_left
        ·intro w'
         go_simp
         with_reducible rfl
        rotate_left
        ·simp only [Act.put,List.setIfInBounds_toArray,List.set_cons_zero,List.set_cons_succ,i64_w,i32_w]
         rfl
        refine pure_ (i:=7) (N:=some 53) (v:=?_) (a':=?_) #[true,true,true,true,true,true,true,true,false,false,false,false,false,false,false,false,false,false] rfl rfl (any_of HT_.out (by kernel_rfl)) (fun _ _ _ h=>h) (Or.inl ⟨by rfl,?_⟩) ?_ ?_
        rotate_left
        ·intro w'
         go_simp
         with_reducible rfl
        rotate_left
        ·simp only [Act.put,List.setIfInBounds_toArray,List.set_cons_zero,List.set_cons_succ,i64_w,i32_w]
         rfl
        refine pure_ (i:=8) (N:=some 54) (v:=?_) (a':=?_) #[true,true,true,true,true,true,true,true,true,false,false,false,false,false,false,false,false,false] rfl rfl (any_of HT_.out (by kernel_rfl)) (fun _ _ _ h=>h) (Or.inl ⟨by rfl,?_⟩) ?_ ?_
        rotate_left
        ·intro w'
         go_simp
         with_reducible rfl
        rotate_left
        ·simp only [Act.put,List.setIfInBounds_toArray,List.set_cons_zero,List.set_cons_succ,i64_w,i32_w]
         rfl
        refine pure_ (i:=9) (N:=some 55) (v:=?_) (a':=?_) #[true,true,true,true,true,true,true,true,true,true,false,false,false,false,false,false,false,false] rfl rfl (any_of HT_.out (by kernel_rfl)) (fun _ _ _ h=>h) (Or.inl ⟨by rfl,?_⟩) ?_ ?_
        rotate_left
        ·intro w'
         go_simp
         with_reducible rfl
        rotate_left
        ·simp only [Act.put,List.setIfInBounds_toArray,List.set_cons_zero,List.set_cons_succ,i64_w,i32_w]
         rfl
        refine pure_ (i:=10) (N:=some 56) (v:=?_) (a':=?_) #[true,true,true,true,true,true,true,true,true,true,true,false,false,false,false,false,false,false] rfl rfl (any_of HT_.out (by kernel_rfl)) (fun _ _ _ h=>h) (Or.inl ⟨by rfl,?_⟩) ?_ ?_
        rotate_left
        ·intro w'
         go_simp
         with_reducible rfl
        rotate_left
        ·simp only [Act.put,List.setIfInBounds_toArray,List.set_cons_zero,List.set_cons_succ,i64_w,i32_w]
         rfl
        refine pure_ (i:=11) (N:=some 57) (v:=?_) (a':=?_) #[true,true,true,true,true,true,true,true,true,true,true,true,false,false,false,false,false,false] rfl rfl (any_of HT_.out (by kernel_rfl)) (fun _ _ _ h=>h) (Or.inl ⟨by rfl,?_⟩) ?_ ?_
        rotate_left
        ·intro w'
         go_simp
         with_reducible rfl
        rotate_left
        ·simp only [Act.put,List.setIfInBounds_toArray,List.set_cons_zero,List.set_cons_succ,i64_w,i32_w]
         rfl
        refine take_ (i:=13) (N:=some 59) (v:=?_) (a':=?_) #[true,true,true,true,true,true,true,true,true,true,true,true,false,true,false,false,false,false] rfl rfl (take_ofW HT_.out HW_.out (by kernel_rfl)) (fun _ _ _ h=>h) (Or.inl ⟨by rfl,?_⟩) hHeld ?_ ?_
        rotate_left
        ·rintro w' ⟨s0,s1,s2⟩
         go_simp
         with_reducible rfl
        rotate_left
        ·simp only [Act.put,List.setIfInBounds_toArray,List.set_cons_zero,List.set_cons_succ,i64_w,i32_w]
         rfl
        refine one_ (i:=12) (N:=some 58) #[true,true,true,true,true,true,true,true,true,true,true,true,true,true,false,false,false,false] rfl rfl (one_of HT_.out (by kernel_rfl)) (by decide) (fun K hK=>?_)
        refine goes_ Try.func12 (by kernel_rfl) rfl #[.slice Ao43 x6_1.length co43, .string t442] (by rfl) rfl rfl (by (try simp only [List.map_toArray,List.map_cons,List.map_nil]);first|done|rfl|(simp only [List.length_drop,List.length_take];rfl)) ?_
        with_reducible refine (impl_NoticeFor.calls _ _ x6_1 t442 t474 t477 t480 _ ?side1 ?side2 A37.out).mono ?_
        (case side1=>repeat (first|exact (Kd.N_reads' HO_6.out).2.2|(with_reducible refine Kd.C_alloc ?_ _)|(with_reducible refine Kd.C_drewN ?_ _)|(with_reducible refine Kd.C_drew ?_)))
        (case side2=>exact (Kd.N_reads' HO_6.out).2.1)
        rintro e w44 ⟨v475,v478,rfl,ho0,ho1,hb⟩
        refine ⟨_,rfl,?_⟩
        have n0_:=Aside0.mk (Kd.N_mono (Kd.N_told (Kd.N_told (Kd.N_old (by (with_reducible repeat (first|apply Kd.N_alloc|apply Kd.N_drewN|apply Kd.N_drew));exact HO_3.out) hb) (Kd.R_base ho0)) (Kd.R_base ho1)) (fun _ h_=>h_.1))
        have n1_:=Aside0.mk (Kd.N_mono (Kd.N_told (Kd.N_told (Kd.N_old (by (with_reducible repeat (first|apply Kd.N_alloc|apply Kd.N_drewN|apply Kd.N_drew));exact HO_6.out) hb) (Kd.R_base ho0)) (Kd.R_base ho1)) (fun _ h_=>h_.1))
        have n2_:=Aside0.mk (Kd.R_elder' (by (with_reducible repeat (first|apply Kd.R_alloc|apply Kd.R_drewN|apply Kd.R_drew));exact HO_453000.out) (Kd.R_base ho0) hb)
        have n3_:=Aside0.mk (Kd.R_elder' (by (with_reducible repeat (first|apply Kd.R_alloc|apply Kd.R_drewN|apply Kd.R_drew));exact HO_453001.out) (Kd.R_base ho1) hb)
        have n4_:=Aside0.mk (Kd.R_elder' (by (with_reducible repeat (first|apply Kd.R_alloc|apply Kd.R_drewN|apply Kd.R_drew));exact HO472.out) (Kd.R_base ho0) hb)
        have n5_:=Aside0.mk (Kd.R_lower (Kd.R_new' (Kd.R_new' ho0 (Kd.R_lt (by (with_reducible repeat (first|apply Kd.R_alloc|apply Kd.R_drewN|apply Kd.R_drew));exact HO_453000.out))) (Kd.R_lt (by (with_reducible repeat (first|apply Kd.R_alloc|apply Kd.R_drewN|apply Kd.R_drew));exact HO472.out))) (below_size (by repeat (first|(with_reducible first|exact HB.out|apply below_alloc|apply pw_below_drewN|apply below_drew1|refine below_set ?_ GE452.out)|exact HB.out))))
        have n6_:=Aside0.mk (Kd.R_lower (Kd.R_new' ho1 (Kd.R_lt (by (with_reducible repeat (first|apply Kd.R_alloc|apply Kd.R_drewN|apply Kd.R_drew));exact HO_453001.out))) (below_size (by repeat (first|(with_reducible first|exact HB.out|apply below_alloc|apply pw_below_drewN|apply below_drew1|refine below_set ?_ GE452.out)|exact HB.out))))
        have n7_:=Aside0.mk (blk_below (g:=gb452) (o:=.cells #[.slice Ao12 t445.length co12, .slice Ao14 t448.length co14, .int .i64 t451] 30 (0,0)) (by (with_reducible repeat (first|refine blk_drewN ?_ _|refine blk_drew ?_|refine blk_alloc ?_ _));exact BK452.out) hb)
        have n8_:=Aside0.mk (below_step (by repeat (first|(with_reducible first|exact HB.out|apply below_alloc|apply pw_below_drewN|apply below_drew1|refine below_set ?_ GE452.out)|exact HB.out)) hb)
        clear HO_3
        clear HO_6
        clear HO_453000
        clear HO_453001
        clear HO472
        clear BK452
        clear HB
        have HO_3:=n0_
        have HO_6:=n1_
        have HO_453000:=n2_
        have HO_453001:=n3_
        have HO472:=n4_
        have HO476:=n5_
        have HO479:=n6_
        have BK452:=n7_
        have HB:=n8_
        clear n0_ n1_ n2_ n3_ n4_ n5_ n6_ n7_ n8_
        (try clear hb)
        (try clear hb2)
        (try clear hk)
        (try clear hi)
        (try clear ho0)
        (try clear ho1)
        obtain ⟨Ao45,co45,eo45⟩:=Kd.R_slice HO476.out
        (first|subst eo45|(injection eo45 with f1_ f2_ f3_;have f4_:=f1_.symm;have f5_:=f3_.symm;clear f1_ f2_ f3_;subst f4_;subst f5_))
        obtain ⟨Ao46,co46,eo46⟩:=Kd.R_slice HO479.out
        (first|subst eo46|(injection eo46 with f1_ f2_ f3_;have f4_:=f1_.symm;have f5_:=f3_.symm;clear f1_ f2_ f3_;subst f4_;subst f5_))
        refine hK.out _ _ ⟨(blk_cell BK452.out 0).trans rfl,(blk_cell BK452.out 1).trans rfl,(blk_cell BK452.out 2).trans rfl⟩ (fun hHeld=>?_)
        clear hK K
        refine norm_ (a':=?_) ?_ ?_
        rotate_left
        ·show Act.put _ (some 58) _ = _
         simp only [Act.put,List.setIfInBounds_toArray,List.set_cons_zero,List.set_cons_succ,i64_w,i32_w]
         rfl
        refine one_ (i:=14) (N:=some 60) #[true,true,true,true,true,true,true,true,true,true,true,true,true,true,true,false,false,false] rfl rfl (one_of HT_.out (by kernel_rfl)) (by decide) (fun K hK=>?_)
        refine goes_ Try.func13 (by kernel_rfl) rfl #[.agg #[.slice Ao45 t474.length co45, .slice Ao46 t477.length co46, .int .i64 t480], .agg #[.slice Ao12 t445.length co12, .slice Ao14 t448.length co14, .int .i64 t451]] (by rfl) rfl rfl (by (try simp only [List.map_toArray,List.map_cons,List.map_nil]);first|done|rfl|(simp only [List.length_drop,List.length_take];rfl)) ?_
        with_reducible refine (laws_lpGroup.calls k1 _ _ t474 _ _ t477 t480 _ _ t445 _ _ t448 t451 t481 _ ?side1 ?side2 ?side3 ?side4 ?side5 ?side6 ?side7 ?side8 A38.out).mono ?_
        (case side1=>repeat (first|exact (Kd.R_reads' HO476.out).2.2|(with_reducible refine Kd.C_alloc ?_ _)|(with_reducible refine Kd.C_drewN ?_ _)|(with_reducible refine Kd.C_drew ?_)))
        (case side2=>exact (Kd.R_reads' HO476.out).2.1)
        (case side3=>repeat (first|exact (Kd.R_reads' HO479.out).2.2|(with_reducible refine Kd.C_alloc ?_ _)|(with_reducible refine Kd.C_drewN ?_ _)|(with_reducible refine Kd.C_drew ?_)))
        (case side4=>exact (Kd.R_reads' HO479.out).2.1)
        (case side5=>repeat (first|exact (Kd.R_reads' HO_453000.out).2.2|(with_reducible refine Kd.C_alloc ?_ _)|(with_reducible refine Kd.C_drewN ?_ _)|(with_reducible refine Kd.C_drew ?_)))
        (case side6=>exact (Kd.R_reads' HO_453000.out).2.1)
        (case side7=>repeat (first|exact (Kd.R_reads' HO_453001.out).2.2|(with_reducible refine Kd.C_alloc ?_ _)|(with_reducible refine Kd.C_drewN ?_ _)|(with_reducible refine Kd.C_drew ?_)))
        (case side8=>exact (Kd.R_reads' HO_453001.out).2.1)
        rintro e w47 ⟨rfl,hb⟩
        refine ⟨_,rfl,?_⟩
        have n0_:=Aside0.mk (Kd.N_below (by (with_reducible repeat (first|apply Kd.N_alloc|apply Kd.N_drewN|apply Kd.N_drew));exact HO_3.out) hb)
        have n1_:=Aside0.mk (Kd.N_below (by (with_reducible repeat (first|apply Kd.N_alloc|apply Kd.N_drewN|apply Kd.N_drew));exact HO_6.out) hb)
        have n2_:=Aside0.mk (Kd.R_below (by (with_reducible repeat (first|apply Kd.R_alloc|apply Kd.R_drewN|apply Kd.R_drew));exact HO_453000.out) hb)
        have n3_:=Aside0.mk (Kd.R_below (by (with_reducible repeat (first|apply Kd.R_alloc|apply Kd.R_drewN|apply Kd.R_drew));exact HO_453001.out) hb)
        have n4_:=Aside0.mk (Kd.R_below (by (with_reducible repeat (first|apply Kd.R_alloc|apply Kd.R_drewN|apply Kd.R_drew));exact HO472.out) hb)
        have n5_:=Aside0.mk (Kd.R_below (by (with_reducible repeat (first|apply Kd.R_alloc|apply Kd.R_drewN|apply Kd.R_drew));exact HO476.out) hb)
        have n6_:=Aside0.mk (Kd.R_below (by (with_reducible repeat (first|apply Kd.R_alloc|apply Kd.R_drewN|apply Kd.R_drew));exact HO479.out) hb)
        have n7_:=Aside0.mk (blk_below (g:=gb452) (o:=.cells #[.slice Ao12 t445.length co12, .slice Ao14 t448.length co14, .int .i64 t451] 30 (0,0)) (by (with_reducible repeat (first|refine blk_drewN ?_ _|refine blk_drew ?_|refine blk_alloc ?_ _));exact BK452.out) hb)
        have n8_:=Aside0.mk (below_step (by repeat (first|(with_reducible first|exact HB.out|apply below_alloc|apply pw_below_drewN|apply below_drew1|refine below_set ?_ GE452.out)|exact HB.out)) hb)
        clear HO_3
        clear HO_6
        clear HO_453000
        clear HO_453001
        clear HO472
        clear HO476
        clear HO479
        clear BK452
        clear HB
        have HO_3:=n0_
        have HO_6:=n1_
        have HO_453000:=n2_
        have HO_453001:=n3_
        have HO472:=n4_
        have HO476:=n5_
        have HO479:=n6_
        have BK452:=n7_
        have HB:=n8_
        clear n0_ n1_ n2_ n3_ n4_ n5_ n6_ n7_ n8_
        (try clear hb)
        (try clear hb2)
        (try clear hk)
        (try clear hi)
        refine hK.out _ _ ⟨(blk_cell BK452.out 0).trans rfl,(blk_cell BK452.out 1).trans rfl,(blk_cell BK452.out 2).trans rfl⟩ (fun hHeld=>?_)
        clear hK K
        refine norm_ (a':=?_) ?_ ?_
        rotate_left
        ·show Act.put _ (some 60) _ = _
         simp only [Act.put,List.setIfInBounds_toArray,List.set_cons_zero,List.set_cons_succ,i64_w,i32_w]
         rfl
        refine pure_ (i:=15) (N:=some 61) (v:=?_) (a':=?_) #[true,true,true,true,true,true,true,true,true,true,true,true,true,true,true,true,false,false] rfl rfl (any_of HT_.out (by kernel_rfl)) (fun _ _ _ h=>h) (Or.inl ⟨by rfl,?_⟩) ?_ ?_
        rotate_left
        ·intro w'
         go_simp
         with_reducible rfl
        rotate_left
        ·simp only [Act.put,List.setIfInBounds_toArray,List.set_cons_zero,List.set_cons_succ,i64_w,i32_w]
         rfl
        refine pure_ (i:=16) (N:=some 62) (v:=?_) (a':=?_) #[true,true,true,true,true,true,true,true,true,true,true,true,true,true,true,true,true,false] rfl rfl (any_of HT_.out (by kernel_rfl)) (fun _ _ _ h=>h) (Or.inl ⟨by rfl,?_⟩) ?_ ?_
        rotate_left
        ·intro w'
         go_simp
         with_reducible rfl
        rotate_left
        ·simp only [Act.put,List.setIfInBounds_toArray,List.set_cons_zero,List.set_cons_succ,i64_w,i32_w]
         rfl
        refine pure_ (i:=17) (N:=some 2) (v:=?_) (a':=?_) #[true,true,true,true,true,true,true,true,true,true,true,true,true,true,true,true,true,true] rfl rfl (any_of HT_.out (by kernel_rfl)) (fun _ _ _ h=>h) (Or.inl ⟨by rfl,?_⟩) ?_ ?_
        rotate_left
        ·intro w'
         go_simp
         with_reducible rfl
        rotate_left
        ·simp only [Act.put,List.setIfInBounds_toArray,List.set_cons_zero,List.set_cons_succ,i64_w,i32_w]
         rfl
        refine done_ (done_of HT_.out (by kernel_rfl)) ?_
        try go_wp2
        go_ret
        exact ⟨by first|rfl|(simp <;> rfl)|(simp [*] <;> rfl),by repeat (first|(with_reducible first|exact HB.out|apply below_alloc|apply pw_below_drewN|apply below_drew1|refine below_set ?_ GE452.out)|exact HB.out)⟩
      ·replace c30:=Bool.eq_false_iff.mpr c30
       subst c30
       have H1:(none) = some r:=by rw [if_neg (show ¬ (false = true) by decide)] at H;exact H
       clear H
       have H:=H1
       clear H1
       exact absurd H (by simp)
  ·replace c7:=Bool.eq_false_iff.mpr c7
   subst c7
   have H1:(none) = some r:=by rw [if_neg (show ¬ (false = true) by decide)] at H;exact H
   clear H
   have H:=H1
   clear H1
   exact absurd H (by simp)

/-- THE ONE PURE STATEMENT of laws_FnForOwn: yours. -/
def laws_FnForOwn.Pure:Prop:=∀ (l0:List Int),l0.length ≤ maxLen → l0.length * 1 ≤ 140737488351232 → (∀ x ∈ l0,(Lit.int .u8 x).wf = true) → ∃ k,laws_FnForOwn.f k l0 = some true
end Go.Proofs.Ytheakfegchndcaa.P
