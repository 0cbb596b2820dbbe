-- Written by a program of this session (patch_print.py over the kit's print; given texts in wip/given).
-- Cut down by a program of this session (wip/tools/prune.py) to what its claim can name.
import Derived.Test.YtheakfegchndcaaPx0
import Derived.Test.YtheakfegchndcaaPx3
import Derived.Test.YtheakfegchndcaaPx6
import Derived.Test.YtheakfegchndcaaPx7
namespace Go.Proofs.Ytheakfegchndcaa.P
open Go.RowKit Go.Proofs.YtheakfegchndcaaW.PrintWords Go.Proofs.YtheakfegchndcaaW.PrintLast Go.Proofs.YtheakfegchndcaaW.PrintMore
attribute [local go_sem] max2_int min2_int max_two min_two max_three min_three max_four min_four   -- for this text's walks alone
set_option linter.unusedVariables false
set_option linter.unusedSimpArgs false
set_option maxHeartbeats 8000000
set_option maxRecDepth 100000

mutual
def laws_FnForAll.l0:Nat → List (S30) → ByteArray → ByteArray → Int → List ByteArray → List (S57) → Int → Option (Bool)
 | 0,_,_,_,_,_,_,_=>none
 | k + 1,x3,x4,x6,x7,x374000,x374001,x374002=>if x7 < (x3.length:Int) then (if 0 ≤ x7 then ((laws_lpHas.f k ((rd_T30 x3 x7).f0) x4).bind fun t383=>(if t383 = true then (laws_FnForAll.l0 k x3 x4 x4 (wrap64 (x7 + 1)) x374000 x374001 x374002) else (laws_FnForAll.l0 k x3 x4 x6 (wrap64 (x7 + 1)) x374000 x374001 x374002))) else (none)) else (laws_FnForAll.l1 k x3 x6 (([]:List (S57))) 0 0 x374000 x374001 x374002)
def laws_FnForAll.l1:Nat → List (S30) → ByteArray → List (S57) → Int → Int → List ByteArray → List (S57) → Int → Option (Bool)
 | 0,_,_,_,_,_,_,_,_=>none
 | k + 1,x3,x6,x8,x9,x10,x374000,x374001,x374002=>if x10 < (x3.length:Int) then (if 0 ≤ x10 then ((laws_lpHas.f k ((rd_T30 x3 x10).f0) x6).bind fun t388=>(if t388 = true then (if x8.length + ((rd_T30 x3 x10).f1).length < 5864062014805 then (laws_FnForAll.l1 k x3 x6 (x8 ++ ((rd_T30 x3 x10).f1)) (mx x9 ((rd_T30 x3 x10).f2)) (wrap64 (x10 + 1)) x374000 x374001 x374002) else (none)) else (laws_FnForAll.l1 k x3 x6 x8 x9 (wrap64 (x10 + 1)) x374000 x374001 x374002))) else (none)) else ((laws_lpRules.f k x374001 x8).bind fun t394=>(if t394 = true then (some (x374002 == x9)) else (none)))
end
def laws_FnForAll.f (k:Nat) (l0:List Int):Option (Bool):=if (l0.length:Int) > 1048576 then (some true) else ((spec_DrawNoticeFor.f k l0).bind fun bt362=>((impl_NoticeFor.f bt362.1 bt362.2).bind fun bt366=>((spec_NoticeFor.f k bt362.1 bt362.2).bind fun bt374=>((laws_lpGroup.f k bt366.1 bt366.2.1 bt366.2.2 bt374.1 bt374.2.1 bt374.2.2).bind fun t381=>(if t381 = true then (laws_FnForAll.l0 k bt362.1 bt362.2 (⟨#[42]⟩:ByteArray) 0 bt366.1 bt366.2.1 bt366.2.2) else (none))))))
theorem laws_FnForAll.mono_l:∀ k,(∀ y0 y1 y2 y3 y4 y5 y6,LeO (laws_FnForAll.l0 k y0 y1 y2 y3 y4 y5 y6) (laws_FnForAll.l0 (k + 1) y0 y1 y2 y3 y4 y5 y6)) ∧ (∀ y0 y1 y2 y3 y4 y5 y6 y7,LeO (laws_FnForAll.l1 k y0 y1 y2 y3 y4 y5 y6 y7) (laws_FnForAll.l1 (k + 1) y0 y1 y2 y3 y4 y5 y6 y7))
 | 0=>⟨fun _ _ _ _ _ _ _ r h=>by simp [laws_FnForAll.l0] at h,fun _ _ _ _ _ _ _ _ r h=>by simp [laws_FnForAll.l1] at h⟩
 | k + 1=>by
  obtain ⟨ih0,ih1⟩:=laws_FnForAll.mono_l k
  refine ⟨?_,?_⟩
  ·intro y0 y1 y2 y3 y4 y5 y6
   unfold laws_FnForAll.l0
   repeat' first
   | (with_reducible exact ih0 _ _ _ _ _ _ _)
   | (with_reducible exact ih1 _ _ _ _ _ _ _ _)
   | (with_reducible exact laws_lpGroup.mono _ _ _ _ _ _ _)
   | (with_reducible exact laws_lpHas.mono _ _ _)
   | (with_reducible exact laws_lpRules.mono _ _ _)
   | (with_reducible exact spec_DrawNoticeFor.mono _ _)
   | (with_reducible exact spec_NoticeFor.mono _ _ _)
   | (with_reducible exact LeO.refl _)
   | (with_reducible exact LeO.none _)
   | (with_reducible refine LeO.ite ?_ ?_)
   | (with_reducible refine LeO.bind ?_ (fun _=>?_))
   | exact ih0 _ _ _ _ _ _ _
   | exact ih1 _ _ _ _ _ _ _ _
   | exact laws_lpGroup.mono _ _ _ _ _ _ _
   | exact laws_lpHas.mono _ _ _
   | exact laws_lpRules.mono _ _ _
   | exact spec_DrawNoticeFor.mono _ _
   | exact spec_NoticeFor.mono _ _ _
   | exact LeO.none _
   | refine LeO.ite ?_ ?_
   | refine LeO.bind ?_ (fun _=>?_)
  ·intro y0 y1 y2 y3 y4 y5 y6 y7
   unfold laws_FnForAll.l1
   repeat' first
   | (with_reducible exact ih0 _ _ _ _ _ _ _)
   | (with_reducible exact ih1 _ _ _ _ _ _ _ _)
   | (with_reducible exact laws_lpGroup.mono _ _ _ _ _ _ _)
   | (with_reducible exact laws_lpHas.mono _ _ _)
   | (with_reducible exact laws_lpRules.mono _ _ _)
   | (with_reducible exact spec_DrawNoticeFor.mono _ _)
   | (with_reducible exact spec_NoticeFor.mono _ _ _)
   | (with_reducible exact LeO.refl _)
   | (with_reducible exact LeO.none _)
   | (with_reducible refine LeO.ite ?_ ?_)
   | (with_reducible refine LeO.bind ?_ (fun _=>?_))
   | exact ih0 _ _ _ _ _ _ _
   | exact ih1 _ _ _ _ _ _ _ _
   | exact laws_lpGroup.mono _ _ _ _ _ _ _
   | exact laws_lpHas.mono _ _ _
   | exact laws_lpRules.mono _ _ _
   | exact spec_DrawNoticeFor.mono _ _
   | exact spec_NoticeFor.mono _ _ _
   | exact LeO.none _
   | refine LeO.ite ?_ ?_
   | refine LeO.bind ?_ (fun _=>?_)
theorem laws_FnForAll.mono:∀ a0 k,LeO (laws_FnForAll.f k a0) (laws_FnForAll.f (k + 1) a0):=by
 intro a0 k
 obtain ⟨ih0,ih1⟩:=laws_FnForAll.mono_l k
 unfold laws_FnForAll.f
 repeat' first
   | (with_reducible exact ih0 _ _ _ _ _ _ _)
   | (with_reducible exact ih1 _ _ _ _ _ _ _ _)
   | (with_reducible exact laws_lpGroup.mono _ _ _ _ _ _ _)
   | (with_reducible exact laws_lpHas.mono _ _ _)
   | (with_reducible exact laws_lpRules.mono _ _ _)
   | (with_reducible exact spec_DrawNoticeFor.mono _ _)
   | (with_reducible exact spec_NoticeFor.mono _ _ _)
   | (with_reducible exact LeO.refl _)
   | (with_reducible exact LeO.none _)
   | (with_reducible refine LeO.ite ?_ ?_)
   | (with_reducible refine LeO.bind ?_ (fun _=>?_))
   | exact ih0 _ _ _ _ _ _ _
   | exact ih1 _ _ _ _ _ _ _ _
   | exact laws_lpGroup.mono _ _ _ _ _ _ _
   | exact laws_lpHas.mono _ _ _
   | exact laws_lpRules.mono _ _ _
   | exact spec_DrawNoticeFor.mono _ _
   | exact spec_NoticeFor.mono _ _ _
   | exact LeO.none _
   | refine LeO.ite ?_ ?_
   | refine LeO.bind ?_ (fun _=>?_)
theorem laws_FnForAll.calls (k:Nat) (A0:Option Addr) (c0:Nat) (l0:List Int) (r:Bool) (w:World) (hr0:Kd.C (Kd.int .u8) w A0 l0.length l0) (hc0:l0.length ≤ c0) (h:laws_FnForAll.f k l0 = some r) :
  Calls Try.prog 6 #[.slice A0 l0.length c0] w fun e w'=>e = .returned (.bool r) ∧ Below w.heap.size w w':=by
 have hu30:=Try.underlying30
 have HR0:=Aside0.mk hr0
 have HC0:=Aside0.mk hc0
 clear hr0 hc0
 have HB:=Aside0.mk (Below.refl w.heap.size w)
 have H:(if (l0.length:Int) > 1048576 then (some true) else ((spec_DrawNoticeFor.f k l0).bind fun bt362=>((impl_NoticeFor.f bt362.1 bt362.2).bind fun bt366=>((spec_NoticeFor.f k bt362.1 bt362.2).bind fun bt374=>((laws_lpGroup.f k bt366.1 bt366.2.1 bt366.2.2 bt374.1 bt374.2.1 bt374.2.2).bind fun t381=>(if t381 = true then (laws_FnForAll.l0 k bt362.1 bt362.2 (⟨#[42]⟩:ByteArray) 0 bt366.1 bt366.2.1 bt366.2.2) else (none))))))) = some r:=h
 clear h
 by_cases c2:(l0.length:Int) > 1048576
 ·rw [if_pos c2] at H
  have c2b0:decide (1048576 < (l0.length:Int)) = true:=decide_eq_true c2
  have c2b1:decide (1048576 < l0.length) = true:=decide_eq_true (by omega)
  clear c2
  obtain rfl:=Option.some.inj H
  go_enter Try.func6,Try.ntmps6
  go_wp2
  go_ret
  exact ⟨by first|rfl|(simp <;> rfl)|(simp [*] <;> rfl),by repeat (first|(with_reducible first|exact HB.out|apply below_alloc|apply pw_below_drewN|apply below_drew1)|exact HB.out)⟩
 ·rw [if_neg c2] at H
  have c2b0:decide (1048576 < (l0.length:Int)) = false:=decide_eq_false c2
  have c2b1:decide (1048576 < l0.length) = false:=decide_eq_false (by omega)
  clear c2
  replace H:=Option.bind_eq_some_iff.mp H
  obtain ⟨⟨t362,t363⟩,A30,H⟩:=H
  replace H:((impl_NoticeFor.f t362 t363).bind fun bt366=>((spec_NoticeFor.f k t362 t363).bind fun bt374=>((laws_lpGroup.f k bt366.1 bt366.2.1 bt366.2.2 bt374.1 bt374.2.1 bt374.2.2).bind fun t381=>(if t381 = true then (laws_FnForAll.l0 k t362 t363 (⟨#[42]⟩:ByteArray) 0 bt366.1 bt366.2.1 bt366.2.2) else (none))))) = some r:=H
  have A3:=Aside0.mk A30
  clear A30
  replace H:=Option.bind_eq_some_iff.mp H
  obtain ⟨⟨t366,t369,t372⟩,A40,H⟩:=H
  replace H:((spec_NoticeFor.f k t362 t363).bind fun bt374=>((laws_lpGroup.f k t366 t369 t372 bt374.1 bt374.2.1 bt374.2.2).bind fun t381=>(if t381 = true then (laws_FnForAll.l0 k t362 t363 (⟨#[42]⟩:ByteArray) 0 t366 t369 t372) else (none)))) = some r:=H
  have A4:=Aside0.mk A40
  clear A40
  replace H:=Option.bind_eq_some_iff.mp H
  obtain ⟨⟨t374,t377,t380⟩,A50,H⟩:=H
  replace H:((laws_lpGroup.f k t366 t369 t372 t374 t377 t380).bind fun t381=>(if t381 = true then (laws_FnForAll.l0 k t362 t363 (⟨#[42]⟩:ByteArray) 0 t366 t369 t372) else (none))) = some r:=H
  have A5:=Aside0.mk A50
  clear A50
  replace H:=Option.bind_eq_some_iff.mp H
  obtain ⟨t381,A60,H⟩:=H
  replace H:(if t381 = true then (laws_FnForAll.l0 k t362 t363 (⟨#[42]⟩:ByteArray) 0 t366 t369 t372) else (none)) = some r:=H
  have A6:=Aside0.mk A60
  clear A60
  by_cases c7:t381 = true
  ·subst c7
   have H1:(laws_FnForAll.l0 k t362 t363 (⟨#[42]⟩:ByteArray) 0 t366 t369 t372) = some r:=by rw [if_pos rfl] at H;exact H
   clear H
   have H:=H1
   clear H1
   have H':=Aside0.mk H
   clear H
   go_enter Try.func6,Try.ntmps6
   try go_wp2_with (first|((with_reducible refine gate_callee (f:=11) rfl ?_);refine goesL_ (some 16) rfl rfl Try.func11 (by kernel_rfl) rfl #[.slice A0 l0.length c0] rfl (by (try simp only [List.map_toArray,List.map_cons,List.map_nil]);first|done|rfl|(simp only [List.length_drop,List.length_take];rfl)) ?_;(with_reducible refine (spec_DrawNoticeFor.calls k _ _ l0 t362 t363 _ ?side1 ?side2 A3.out).mono ?_);(case side1=>repeat (first|exact HR0.out|(with_reducible refine Kd.C_alloc ?_ _)|(with_reducible refine Kd.C_drewN ?_ _)|(with_reducible refine Kd.C_drew ?_)));(case side2=>exact HC0.out);rintro e w8 ⟨v364,rfl,ho0,hb⟩;refine ⟨_,rfl,?_⟩;have n0_:=Aside0.mk (Kd.S_lower ho0 (below_size (by repeat (first|(with_reducible first|exact HB.out|apply below_alloc|apply pw_below_drewN|apply below_drew1)|exact HB.out))));have n1_:=Aside0.mk (below_step (by repeat (first|(with_reducible first|exact HB.out|apply below_alloc|apply pw_below_drewN|apply below_drew1)|exact HB.out)) hb);clear HB;have HO365:=n0_;have HB:=n1_;clear n0_ n1_;(try clear hb);(try clear hb2);(try clear hk);(try clear hi);(try clear ho0);obtain ⟨Ao9,co9,eo9⟩:=Kd.S_slice HO365.out;subst eo9)|((with_reducible refine gate_callee (f:=12) rfl ?_);refine goesL_ (some 21) rfl rfl Try.func12 (by kernel_rfl) rfl #[.slice Ao9 t362.length co9, .string t363] rfl (by (try simp only [List.map_toArray,List.map_cons,List.map_nil]);first|done|rfl|(simp only [List.length_drop,List.length_take];rfl)) ?_;(with_reducible refine (impl_NoticeFor.calls _ _ t362 t363 t366 t369 t372 _ ?side1 ?side2 A4.out).mono ?_);(case side1=>repeat (first|exact (Kd.S_reads' HO365.out).2.2|(with_reducible refine Kd.C_alloc ?_ _)|(with_reducible refine Kd.C_drewN ?_ _)|(with_reducible refine Kd.C_drew ?_)));(case side2=>exact (Kd.S_reads' HO365.out).2.1);rintro e w10 ⟨v367,v370,rfl,ho0,ho1,hb⟩;refine ⟨_,rfl,?_⟩;have n0_:=Aside0.mk (Kd.S_mono (Kd.S_told (Kd.S_told (Kd.S_old (by (with_reducible repeat (first|apply Kd.S_alloc|apply Kd.S_drewN|apply Kd.S_drew));exact HO365.out) hb) (Kd.R_base ho0)) (Kd.R_base ho1)) (fun _ h_=>h_.1));have n1_:=Aside0.mk (Kd.R_lower ho0 (below_size (by repeat (first|(with_reducible first|exact HB.out|apply below_alloc|apply pw_below_drewN|apply below_drew1)|exact HB.out))));have n2_:=Aside0.mk (Kd.R_lower ho1 (below_size (by repeat (first|(with_reducible first|exact HB.out|apply below_alloc|apply pw_below_drewN|apply below_drew1)|exact HB.out))));have n3_:=Aside0.mk (below_step (by repeat (first|(with_reducible first|exact HB.out|apply below_alloc|apply pw_below_drewN|apply below_drew1)|exact HB.out)) hb);clear HO365;clear HB;have HO365:=n0_;have HO368:=n1_;have HO371:=n2_;have HB:=n3_;clear n0_ n1_ n2_ n3_;(try clear hb);(try clear hb2);(try clear hk);(try clear hi);(try clear ho0);(try clear ho1))|((with_reducible refine gate_dst (N:=5) rfl ?_);refine box_event ?hg (N:=5) ?hd (cs:=#[.slice none 0 0, .slice none 0 0, .int .i64 0]) (t:=30) ?hr ?_;(case hd=>rfl);(case hg=>rfl);(case hr=>first|(go_simp;done)|(go_simp;rfl));intro gb373 hg w11 hbox hb;have n0_:=Aside0.mk (Kd.S_below (Kd.S_elderB (by (with_reducible repeat (first|apply Kd.S_alloc|apply Kd.S_drewN|apply Kd.S_drew));exact HO365.out) gb373 (Nat.le_of_eq hg.symm)) hb);have n1_:=Aside0.mk (Kd.R_below (by (with_reducible repeat (first|apply Kd.R_alloc|apply Kd.R_drewN|apply Kd.R_drew));exact HO368.out) hb);have n2_:=Aside0.mk (Kd.R_below (by (with_reducible repeat (first|apply Kd.R_alloc|apply Kd.R_drewN|apply Kd.R_drew));exact HO371.out) hb);have n3_:=Aside0.mk (below_step (by repeat (first|(with_reducible first|exact HB.out|apply below_alloc|apply pw_below_drewN|apply below_drew1)|exact HB.out)) hb);have n4_:=Aside0.mk (hbox);have n5_:=Aside0.mk ((by rw [hg];exact (below_size (by repeat (first|(with_reducible first|exact HB.out|apply below_alloc|apply pw_below_drewN|apply below_drew1)|exact HB.out))):w.heap.size ≤ gb373));have n6_:=n5_;clear HO365;clear HO368;clear HO371;clear HB;have HO365:=n0_;have HO368:=n1_;have HO371:=n2_;have HB:=n3_;have BK373:=n4_;have GW373:=n5_;have GE373:=n6_;clear n0_ n1_ n2_ n3_ n4_ n5_ n6_;clear hb hbox hg;obtain ⟨Ao12,co12,eo12⟩:=Kd.R_slice HO368.out;subst eo12;have hcz13_0:w11.cell? ⟨gb373,0,none⟩ = some (.slice none 0 0):=(blk_cell BK373.out 0).trans rfl;have hcz13_1:w11.cell? ⟨gb373,1,none⟩ = some (.slice none 0 0):=(blk_cell BK373.out 1).trans rfl;have hcz13_2:w11.cell? ⟨gb373,2,none⟩ = some (.int .i64 0):=(blk_cell BK373.out 2).trans rfl;have hfz13_0:=blk_frozen BK373.out 0;have hfz13_1:=blk_frozen BK373.out 1;have hfz13_2:=blk_frozen BK373.out 2;obtain ⟨Ao14,co14,eo14⟩:=Kd.R_slice HO371.out;subst eo14))
   have n0_:Aside0 (Kd.S k30 30 (((w11.setCell ⟨gb373,0,none⟩ (.slice Ao12 t366.length co12)).setCell ⟨gb373,1,none⟩ (.slice Ao14 t369.length co14)).setCell ⟨gb373,2,none⟩ (.int .i64 t372)) w.heap.size (fun k_=>some k_ ≠ (.slice Ao12 t366.length co12:Value).ownBlock ∧ some k_ ≠ (.slice Ao14 t369.length co14:Value).ownBlock ∧ k_ ≠ gb373) (.slice Ao9 t362.length co9) t362):=⟨by (with_reducible repeat (first|apply Kd.S_alloc|apply Kd.S_drewN|apply Kd.S_drew));exact Kd.S_mono (Kd.S_far (p:=⟨gb373,2,none⟩) (Kd.S_far (p:=⟨gb373,1,none⟩) (Kd.S_far (p:=⟨gb373,0,none⟩) (Kd.S_mono HO365.out (fun k_ hk=>(⟨hk,hk.2⟩:_ ∧ k_ ≠ gb373))) (fun _ hk=>hk.2) (.slice Ao12 t366.length co12)) (fun _ hk=>hk.2) (.slice Ao14 t369.length co14)) (fun _ hk=>hk.2) (.int .i64 t372)) (fun _ hk=>⟨hk.1.1.1.2,⟨hk.1.1.2,hk.1.2⟩⟩)⟩
   have n1_:Aside0 (Kd.R Kd.string 9 (((w11.setCell ⟨gb373,0,none⟩ (.slice Ao12 t366.length co12)).setCell ⟨gb373,1,none⟩ (.slice Ao14 t369.length co14)).setCell ⟨gb373,2,none⟩ (.int .i64 t372)) w.heap.size (fun _=>True) (.slice Ao12 t366.length co12) t366):=⟨by (with_reducible repeat (first|apply Kd.R_alloc|apply Kd.R_drewN|apply Kd.R_drew));exact Kd.R_mono (Kd.R_far (p:=⟨gb373,2,none⟩) (Kd.R_far (p:=⟨gb373,1,none⟩) (Kd.R_far (p:=⟨gb373,0,none⟩) (Kd.R_types HO368.out BK373.out (by decide)) (fun _ hk=>hk.2) (.slice Ao12 t366.length co12)) (fun _ hk=>hk.2) (.slice Ao14 t369.length co14)) (fun _ hk=>hk.2) (.int .i64 t372)) (fun _ hk=>trivial)⟩
   have n2_:Aside0 (Kd.R k57 57 (((w11.setCell ⟨gb373,0,none⟩ (.slice Ao12 t366.length co12)).setCell ⟨gb373,1,none⟩ (.slice Ao14 t369.length co14)).setCell ⟨gb373,2,none⟩ (.int .i64 t372)) w.heap.size (fun _=>True) (.slice Ao14 t369.length co14) t369):=⟨by (with_reducible repeat (first|apply Kd.R_alloc|apply Kd.R_drewN|apply Kd.R_drew));exact Kd.R_mono (Kd.R_far (p:=⟨gb373,2,none⟩) (Kd.R_far (p:=⟨gb373,1,none⟩) (Kd.R_far (p:=⟨gb373,0,none⟩) (Kd.R_types HO371.out BK373.out (by decide)) (fun _ hk=>hk.2) (.slice Ao12 t366.length co12)) (fun _ hk=>hk.2) (.slice Ao14 t369.length co14)) (fun _ hk=>hk.2) (.int .i64 t372)) (fun _ hk=>trivial)⟩
   have n3_:Aside0 ((((w11.setCell ⟨gb373,0,none⟩ (.slice Ao12 t366.length co12)).setCell ⟨gb373,1,none⟩ (.slice Ao14 t369.length co14)).setCell ⟨gb373,2,none⟩ (.int .i64 t372)).heap[gb373]? = some (.cells #[.slice Ao12 t366.length co12, .slice Ao14 t369.length co14, .int .i64 t372] 30 (0,0))):=⟨by (with_reducible repeat (first|refine blk_drewN ?_ _|refine blk_drew ?_|refine blk_alloc ?_ _));refine blk_put (cs:=#[.slice Ao12 t366.length co12, .slice Ao14 t369.length co14, .int .i64 0]) ?_ 2 _ rfl;(with_reducible repeat (first|refine blk_drewN ?_ _|refine blk_drew ?_|refine blk_alloc ?_ _));refine blk_put (cs:=#[.slice Ao12 t366.length co12, .slice none 0 0, .int .i64 0]) ?_ 1 _ rfl;(with_reducible repeat (first|refine blk_drewN ?_ _|refine blk_drew ?_|refine blk_alloc ?_ _));refine blk_put (cs:=#[.slice none 0 0, .slice none 0 0, .int .i64 0]) ?_ 0 _ rfl;(with_reducible repeat (first|refine blk_drewN ?_ _|refine blk_drew ?_|refine blk_alloc ?_ _));exact BK373.out⟩
   have n4_:Aside0 (Below w.heap.size w (((w11.setCell ⟨gb373,0,none⟩ (.slice Ao12 t366.length co12)).setCell ⟨gb373,1,none⟩ (.slice Ao14 t369.length co14)).setCell ⟨gb373,2,none⟩ (.int .i64 t372))):=⟨by repeat (first|(with_reducible first|exact HB.out|apply below_alloc|apply pw_below_drewN|apply below_drew1|refine below_set ?_ GE373.out)|exact HB.out)⟩
   (try clear HO365)
   (try clear HO368)
   (try clear HO371)
   (try clear BK373)
   (try clear HB)
   generalize (((w11.setCell ⟨gb373,0,none⟩ (.slice Ao12 t366.length co12)).setCell ⟨gb373,1,none⟩ (.slice Ao14 t369.length co14)).setCell ⟨gb373,2,none⟩ (.int .i64 t372)) = w15 at n0_ n1_ n2_ n3_ n4_ ⊢
   have HO365:=n0_
   have HO368:=n1_
   have HO371:=n2_
   have BK373:=n3_
   have HB:=n4_
   clear n0_ n1_ n2_ n3_ n4_
   have n0_:=Aside0.mk (Kd.S_drew HO365.out)
   have n1_:=Aside0.mk (Kd.R_drew HO368.out)
   have n2_:=Aside0.mk (Kd.R_drew HO371.out)
   have n3_:=Aside0.mk (blk_drew BK373.out)
   have n4_:=Aside0.mk (below_drew1 HB.out)
   clear HO365
   clear HO368
   clear HO371
   clear BK373
   clear HB
   have HO365:=n0_
   have HO368:=n1_
   have HO371:=n2_
   have BK373:=n3_
   have HB:=n4_
   clear n0_ n1_ n2_ n3_ n4_
   refine start_ (n:=6) (S:=fun w'=>w'.cell? ⟨gb373,0,none⟩ = some (.slice Ao12 t366.length co12) ∧ w'.cell? ⟨gb373,1,none⟩ = some (.slice Ao14 t369.length co14) ∧ w'.cell? ⟨gb373,2,none⟩ = some (.int .i64 t372)) (ds:=[]) #[false,false,false,false,false,false] (by kernel_rfl) rfl rfl ⟨(blk_cell BK373.out 0).trans rfl,(blk_cell BK373.out 1).trans rfl,(blk_cell BK373.out 2).trans rfl⟩ (fun hHeld=>?_)
   generalize w15.drew = w16 at HO365 HO368 HO371 BK373 HB hHeld ⊢
   refine pure_ (i:=1) (N:=some 23) (v:=?_) (a':=?_) #[false,true,false,false,false,false] rfl rfl (by kernel_rfl) (fun _ _ _ h=>h) (Or.inl ⟨by rfl,?_⟩) ?_ ?_
   rotate_left
   ·intro w'
    go_simp
    with_reducible rfl
   rotate_left
   ·simp only [Act.put,List.setIfInBounds_toArray,List.set_cons_zero,List.set_cons_succ,i64_w,i32_w]
    rfl
   refine pure_ (i:=2) (N:=some 24) (v:=?_) (a':=?_) #[false,true,true,false,false,false] rfl rfl (by kernel_rfl) (fun _ _ _ h=>h) (Or.inl ⟨by rfl,?_⟩) ?_ ?_
   rotate_left
   ·intro w'
    go_simp
    with_reducible rfl
   rotate_left
   ·simp only [Act.put,List.setIfInBounds_toArray,List.set_cons_zero,List.set_cons_succ,i64_w,i32_w]
    rfl
   refine take_ (i:=0) (N:=some 22) (v:=?_) (a':=?_) #[true,true,true,false,false,false] rfl rfl (by kernel_rfl) (fun _ _ _ h=>h) (Or.inl ⟨by rfl,?_⟩) hHeld ?_ ?_
   rotate_left
   ·rintro w' ⟨s0,s1,s2⟩
    go_simp
    with_reducible rfl
   rotate_left
   ·simp only [Act.put,List.setIfInBounds_toArray,List.set_cons_zero,List.set_cons_succ,i64_w,i32_w]
    rfl
   refine one_ (i:=3) (N:=some 25) #[true,true,true,true,false,false] rfl rfl (by kernel_rfl) (by decide) (fun K hK=>?_)
   refine goes_ Try.func14 (by kernel_rfl) rfl #[.slice Ao9 t362.length co9, .string t363] (by rfl) rfl rfl (by (try simp only [List.map_toArray,List.map_cons,List.map_nil]);first|done|rfl|(simp only [List.length_drop,List.length_take];rfl)) ?_
   with_reducible refine (spec_NoticeFor.calls k _ _ t362 t363 t374 t377 t380 _ ?side1 ?side2 A5.out).mono ?_
   (case side1=>repeat (first|exact (Kd.S_reads' HO365.out).2.2|(with_reducible refine Kd.C_alloc ?_ _)|(with_reducible refine Kd.C_drewN ?_ _)|(with_reducible refine Kd.C_drew ?_)))
   (case side2=>exact (Kd.S_reads' HO365.out).2.1)
   rintro e w17 ⟨v375,v378,rfl,ho0,ho1,hb⟩
   refine ⟨_,rfl,?_⟩
   have n0_:=Aside0.mk (Kd.S_mono (Kd.S_told (Kd.S_told (Kd.S_old (by (with_reducible repeat (first|apply Kd.S_alloc|apply Kd.S_drewN|apply Kd.S_drew));exact HO365.out) hb) (Kd.R_base ho0)) (Kd.R_base ho1)) (fun _ h_=>h_.1))
   have n1_:=Aside0.mk (Kd.R_elder' (by (with_reducible repeat (first|apply Kd.R_alloc|apply Kd.R_drewN|apply Kd.R_drew));exact HO368.out) (Kd.R_base ho0) hb)
   have n2_:=Aside0.mk (Kd.R_elder' (by (with_reducible repeat (first|apply Kd.R_alloc|apply Kd.R_drewN|apply Kd.R_drew));exact HO371.out) (Kd.R_base ho1) hb)
   have n3_:=Aside0.mk (Kd.R_lower (Kd.R_new' ho0 (Kd.R_lt (by (with_reducible repeat (first|apply Kd.R_alloc|apply Kd.R_drewN|apply Kd.R_drew));exact HO368.out))) (below_size (by repeat (first|(with_reducible first|exact HB.out|apply below_alloc|apply pw_below_drewN|apply below_drew1|refine below_set ?_ GE373.out)|exact HB.out))))
   have n4_:=Aside0.mk (Kd.R_lower (Kd.R_new' ho1 (Kd.R_lt (by (with_reducible repeat (first|apply Kd.R_alloc|apply Kd.R_drewN|apply Kd.R_drew));exact HO371.out))) (below_size (by repeat (first|(with_reducible first|exact HB.out|apply below_alloc|apply pw_below_drewN|apply below_drew1|refine below_set ?_ GE373.out)|exact HB.out))))
   have n5_:=Aside0.mk (blk_below (g:=gb373) (o:=.cells #[.slice Ao12 t366.length co12, .slice Ao14 t369.length co14, .int .i64 t372] 30 (0,0)) (by (with_reducible repeat (first|refine blk_drewN ?_ _|refine blk_drew ?_|refine blk_alloc ?_ _));exact BK373.out) hb)
   have n6_:=Aside0.mk (below_step (by repeat (first|(with_reducible first|exact HB.out|apply below_alloc|apply pw_below_drewN|apply below_drew1|refine below_set ?_ GE373.out)|exact HB.out)) hb)
   clear HO365
   clear HO368
   clear HO371
   clear BK373
   clear HB
   have HO365:=n0_
   have HO368:=n1_
   have HO371:=n2_
   have HO376:=n3_
   have HO379:=n4_
   have BK373:=n5_
   have HB:=n6_
   clear n0_ n1_ n2_ n3_ n4_ n5_ n6_
   (try clear hb)
   (try clear hb2)
   (try clear hk)
   (try clear hi)
   (try clear ho0)
   (try clear ho1)
   obtain ⟨Ao18,co18,eo18⟩:=Kd.R_slice HO376.out
   (first|subst eo18|(injection eo18 with f1_ f2_ f3_;have f4_:=f1_.symm;have f5_:=f3_.symm;clear f1_ f2_ f3_;subst f4_;subst f5_))
   obtain ⟨Ao19,co19,eo19⟩:=Kd.R_slice HO379.out
   (first|subst eo19|(injection eo19 with f1_ f2_ f3_;have f4_:=f1_.symm;have f5_:=f3_.symm;clear f1_ f2_ f3_;subst f4_;subst f5_))
   refine hK.out _ _ ⟨(blk_cell BK373.out 0).trans rfl,(blk_cell BK373.out 1).trans rfl,(blk_cell BK373.out 2).trans rfl⟩ (fun hHeld=>?_)
   clear hK K
   refine norm_ (a':=?_) ?_ ?_
   rotate_left
   ·show Act.put _ (some 25) _ = _
    simp only [Act.put,List.setIfInBounds_toArray,List.set_cons_zero,List.set_cons_succ,i64_w,i32_w]
    rfl
   refine one_ (i:=4) (N:=some 26) #[true,true,true,true,true,false] rfl rfl (by kernel_rfl) (by decide) (fun K hK=>?_)
   refine goes_ Try.func13 (by kernel_rfl) rfl #[.agg #[.slice Ao12 t366.length co12, .slice Ao14 t369.length co14, .int .i64 t372], .agg #[.slice Ao18 t374.length co18, .slice Ao19 t377.length co19, .int .i64 t380]] (by rfl) rfl rfl (by (try simp only [List.map_toArray,List.map_cons,List.map_nil]);first|done|rfl|(simp only [List.length_drop,List.length_take];rfl)) ?_
   with_reducible refine (laws_lpGroup.calls k _ _ t366 _ _ t369 t372 _ _ t374 _ _ t377 t380 true _ ?side1 ?side2 ?side3 ?side4 ?side5 ?side6 ?side7 ?side8 A6.out).mono ?_
   (case side1=>repeat (first|exact (Kd.R_reads' HO368.out).2.2|(with_reducible refine Kd.C_alloc ?_ _)|(with_reducible refine Kd.C_drewN ?_ _)|(with_reducible refine Kd.C_drew ?_)))
   (case side2=>exact (Kd.R_reads' HO368.out).2.1)
   (case side3=>repeat (first|exact (Kd.R_reads' HO371.out).2.2|(with_reducible refine Kd.C_alloc ?_ _)|(with_reducible refine Kd.C_drewN ?_ _)|(with_reducible refine Kd.C_drew ?_)))
   (case side4=>exact (Kd.R_reads' HO371.out).2.1)
   (case side5=>repeat (first|exact (Kd.R_reads' HO376.out).2.2|(with_reducible refine Kd.C_alloc ?_ _)|(with_reducible refine Kd.C_drewN ?_ _)|(with_reducible refine Kd.C_drew ?_)))
   (case side6=>exact (Kd.R_reads' HO376.out).2.1)
   (case side7=>repeat (first|exact (Kd.R_reads' HO379.out).2.2|(with_reducible refine Kd.C_alloc ?_ _)|(with_reducible refine Kd.C_drewN ?_ _)|(with_reducible refine Kd.C_drew ?_)))
   (case side8=>exact (Kd.R_reads' HO379.out).2.1)
   rintro e w20 ⟨rfl,hb⟩
   refine ⟨_,rfl,?_⟩
   have n0_:=Aside0.mk (Kd.S_below (by (with_reducible repeat (first|apply Kd.S_alloc|apply Kd.S_drewN|apply Kd.S_drew));exact HO365.out) hb)
   have n1_:=Aside0.mk (Kd.R_below (by (with_reducible repeat (first|apply Kd.R_alloc|apply Kd.R_drewN|apply Kd.R_drew));exact HO368.out) hb)
   have n2_:=Aside0.mk (Kd.R_below (by (with_reducible repeat (first|apply Kd.R_alloc|apply Kd.R_drewN|apply Kd.R_drew));exact HO371.out) hb)
   have n3_:=Aside0.mk (Kd.R_below (by (with_reducible repeat (first|apply Kd.R_alloc|apply Kd.R_drewN|apply Kd.R_drew));exact HO376.out) hb)
   have n4_:=Aside0.mk (Kd.R_below (by (with_reducible repeat (first|apply Kd.R_alloc|apply Kd.R_drewN|apply Kd.R_drew));exact HO379.out) hb)
   have n5_:=Aside0.mk (blk_below (g:=gb373) (o:=.cells #[.slice Ao12 t366.length co12, .slice Ao14 t369.length co14, .int .i64 t372] 30 (0,0)) (by (with_reducible repeat (first|refine blk_drewN ?_ _|refine blk_drew ?_|refine blk_alloc ?_ _));exact BK373.out) hb)
   have n6_:=Aside0.mk (below_step (by repeat (first|(with_reducible first|exact HB.out|apply below_alloc|apply pw_below_drewN|apply below_drew1|refine below_set ?_ GE373.out)|exact HB.out)) hb)
   clear HO365
   clear HO368
   clear HO371
   clear HO376
   clear HO379
   clear BK373
   clear HB
   have HO365:=n0_
   have HO368:=n1_
   have HO371:=n2_
   have HO376:=n3_
   have HO379:=n4_
   have BK373:=n5_
   have HB:=n6_
   clear n0_ n1_ n2_ n3_ n4_ n5_ n6_
   (try clear hb)
   (try clear hb2)
   (try clear hk)
   (try clear hi)
   refine hK.out _ _ ⟨(blk_cell BK373.out 0).trans rfl,(blk_cell BK373.out 1).trans rfl,(blk_cell BK373.out 2).trans rfl⟩ (fun hHeld=>?_)
   clear hK K
   refine norm_ (a':=?_) ?_ ?_
   rotate_left
   ·show Act.put _ (some 26) _ = _
    simp only [Act.put,List.setIfInBounds_toArray,List.set_cons_zero,List.set_cons_succ,i64_w,i32_w]
    rfl
   refine pure_ (i:=5) (N:=some 27) (v:=?_) (a':=?_) #[true,true,true,true,true,true] rfl rfl (by kernel_rfl) (fun _ _ _ h=>h) (Or.inl ⟨by rfl,?_⟩) ?_ ?_
   rotate_left
   ·intro w'
    go_simp
    with_reducible rfl
   rotate_left
   ·simp only [Act.put,List.setIfInBounds_toArray,List.set_cons_zero,List.set_cons_succ,i64_w,i32_w]
    rfl
   refine done_ (by kernel_rfl) ?_
   try go_wp2
   go_loopg [6,7] k (fun kq v6 v7 w'=>∃ (x6_1:ByteArray) (x7_1:Int),v6 = .string x6_1 ∧ v7 = .int .i64 x7_1 ∧ Aside0 (laws_FnForAll.l0 kq t362 t363 x6_1 x7_1 t366 t369 t372 = some r) ∧ Aside0 (kq ≤ k) ∧ Aside0 (Kd.S k30 30 w' w.heap.size (fun k_=>some k_ ≠ ((.slice Ao12 t366.length co12):Value).ownBlock ∧ some k_ ≠ ((.slice Ao14 t369.length co14):Value).ownBlock ∧ k_ ≠ gb373) (.slice Ao9 t362.length co9) t362) ∧ Aside0 (Kd.R Kd.string 9 w' w.heap.size (fun _=>True) (.slice Ao12 t366.length co12) t366) ∧ Aside0 (Kd.R k57 57 w' w.heap.size (fun _=>True) (.slice Ao14 t369.length co14) t369) ∧ Aside0 (w'.heap[gb373]? = some (.cells #[(.slice Ao12 t366.length co12),(.slice Ao14 t369.length co14), .int .i64 t372] 30 (0,0))) ∧ Aside0 (Below w.heap.size w w'))
   case atStart=>exact ⟨((⟨#[42]⟩:ByteArray)),(0),(by first|rfl|(simp;done)|(simp only [i64_w,i32_w];done)|(simp only [i64_w,i32_w];rfl)|(simp [*];done)|(simp [emp_bne,emp_beq];done)),(by first|rfl|(simp;done)|(simp only [i64_w,i32_w];done)|(simp only [i64_w,i32_w];rfl)|(simp [*];done)|(simp [emp_bne,emp_beq];done)),H',⟨Nat.le_refl _⟩,⟨by (with_reducible repeat (first|apply Kd.S_alloc|apply Kd.S_drewN|apply Kd.S_drew));exact Kd.S_mono HO365.out (fun _ hk=>⟨hk.1.1.1,⟨hk.1.1.2.1,hk.1.1.2.2⟩⟩)⟩,⟨by (with_reducible repeat (first|apply Kd.R_alloc|apply Kd.R_drewN|apply Kd.R_drew));exact Kd.R_mono HO368.out (fun _ hk=>trivial)⟩,⟨by (with_reducible repeat (first|apply Kd.R_alloc|apply Kd.R_drewN|apply Kd.R_drew));exact Kd.R_mono HO371.out (fun _ hk=>trivial)⟩,⟨by (with_reducible repeat (first|refine blk_drewN ?_ _|refine blk_drew ?_|refine blk_alloc ?_ _));exact BK373.out⟩,⟨by repeat (first|(with_reducible first|exact HB.out|apply below_alloc|apply pw_below_drewN|apply below_drew1|refine below_set ?_ GE373.out)|exact HB.out)⟩⟩
   case round =>
    clear H'
    try clear c1
    try clear c2
    try clear c2b0
    try clear c2b1
    try clear p2
    try clear c6
    try clear c7
    try clear c11
    try clear c12
    try clear c13
    try clear c14
    try clear hcz13_0
    try clear hcz13_1
    try clear hcz13_2
    try clear hfz13_0
    try clear hfz13_1
    try clear hfz13_2
    obtain ⟨x6_1,x7_1,rfl,rfl,HA,HK1,HO_3,HO_374000,HO_374001,BK373,HB⟩:=hrel
    cases gk with
    | zero=>exact absurd HA.out (by simp [laws_FnForAll.l0])
    | succ k1 =>
     have H:=HA.out
     clear HA
     simp only [laws_FnForAll.l0] at H
     by_cases c21:x7_1 < (t362.length:Int)
     ·rw [if_pos c21] at H
      have c21b0:decide (x7_1 < (t362.length:Int)) = true:=decide_eq_true c21
      clear c21
      by_cases c22:0 ≤ x7_1
      ·rw [if_pos c22] at H
       have c22b0:decide (0 ≤ x7_1) = true:=decide_eq_true c22
       clear c22
       replace H:=Option.bind_eq_some_iff.mp H
       obtain ⟨t383,A230,H⟩:=H
       replace H:(if t383 = true then (laws_FnForAll.l0 k1 t362 t363 t363 (wrap64 (x7_1 + 1)) t366 t369 t372) else (laws_FnForAll.l0 k1 t362 t363 x6_1 (wrap64 (x7_1 + 1)) t366 t369 t372)) = some r:=H
       have A23:=Aside0.mk A230
       clear A230
       by_cases c24:t383 = true
       ·subst c24
        have H1:(laws_FnForAll.l0 k1 t362 t363 t363 (wrap64 (x7_1 + 1)) t366 t369 t372) = some r:=by rw [if_pos rfl] at H;exact H
        clear H
        have H:=H1
        clear H1
        have H':=Aside0.mk H
        clear H
        have p382:0 ≤ (x7_1:Int):=of_decide_eq_true (by first|(with_reducible assumption)|assumption)
        have q382:x7_1 < (t362.length:Int):=of_decide_eq_true (by first|(with_reducible assumption)|assumption)
        obtain ⟨ad382,A382_0,c382_0,A382_1,c382_1,e382,hx382_0,hx382_1,hx382_2,hl382_0,hi382_0,hl382_1,hi382_1⟩:=at_T30 (Kd.S_reads' HO_3.out).2.2 x7_1 p382 q382
        cases e382
        obtain ⟨ce382,hce382,hMe382,hcc382⟩:=Kd.S_get HO_3.out z30 x7_1 p382 (by first|exact q382|exact of_decide_eq_true (by first|(with_reducible assumption)|assumption)|(have e_:=(Kd.S_reads' HO_3.out).1;omega))
        obtain ⟨ve382_0,ve382_1,rfl,ge382_0,ge382_1⟩:=k30_openM hMe382
        have hv382_0:=hcc382 0 _ rfl
        rw [Nat.add_zero] at hv382_0
        replace hv382_0:=Option.some.inj (hv382_0.symm.trans hx382_0)
        rw [hv382_0] at ge382_0
        have HL382_0:=Aside0.mk (show Kd.R Kd.string 9 _ _ _ _ ((rd_T30 t362 x7_1).f0) from ge382_0)
        clear hv382_0 ge382_0
        have hv382_1:=hcc382 1 _ rfl
        rw [add_field _ _ 1 (by omega)] at hv382_1
        replace hv382_1:=Option.some.inj (hv382_1.symm.trans hx382_1)
        rw [hv382_1] at ge382_1
        have HL382_1:=Aside0.mk (show Kd.R k57 57 _ _ _ _ ((rd_T30 t362 x7_1).f1) from ge382_1)
        clear hv382_1 ge382_1
        clear hcc382 hce382
        have HR382_0:=Aside0.mk hi382_0
        have HC382_0:=Aside0.mk hl382_0
        clear hi382_0 hl382_0
        have HR382_1:=Aside0.mk hi382_1
        have HC382_1:=Aside0.mk hl382_1
        clear hi382_1 hl382_1
        replace p382:=eq_true p382
        replace q382:=eq_true q382
        go_wp2_with (first|((with_reducible refine gate_callee (f:=16) rfl ?_);refine goesL_ (some 40) rfl rfl Try.func16 (by kernel_rfl) rfl #[.slice A382_0 ((rd_T30 t362 x7_1).f0).length c382_0, .string t363] rfl (by (try simp only [List.map_toArray,List.map_cons,List.map_nil]);first|done|rfl|(simp only [List.length_drop,List.length_take];rfl)) ?_;(with_reducible refine (laws_lpHas.calls k1 _ _ ((rd_T30 t362 x7_1).f0) t363 true _ ?side1 ?side2 A23.out).mono ?_);(case side1=>repeat (first|exact (by repeat (first|(with_reducible exact HR382_0.out)|(with_reducible refine Kd.C_alloc ?_ _)|(with_reducible refine Kd.C_drewN ?_ _)|(with_reducible refine Kd.C_drew ?_)|exact HR382_0.out))|(with_reducible refine Kd.C_alloc ?_ _)|(with_reducible refine Kd.C_drewN ?_ _)|(with_reducible refine Kd.C_drew ?_)));(case side2=>exact HC382_0.out);rintro e w' ⟨rfl,⟨nd,rfl⟩⟩;refine ⟨_,rfl,?_⟩))
        go_roundg k1
        case measure=>have:=HK1.out;omega
        case rel=>exact ⟨(t363),(wrap64 (x7_1 + 1)),(by first|rfl|(simp;done)|(simp only [i64_w,i32_w];done)|(simp only [i64_w,i32_w];rfl)|(simp [*];done)|(simp [emp_bne,emp_beq];done)),(by first|rfl|(simp;done)|(simp only [i64_w,i32_w];done)|(simp only [i64_w,i32_w];rfl)|(simp [*];done)|(simp [emp_bne,emp_beq];done)),H',⟨by have:=HK1.out;omega⟩,⟨by (with_reducible repeat (first|apply Kd.S_alloc|apply Kd.S_drewN|apply Kd.S_drew));exact HO_3.out⟩,⟨by (with_reducible repeat (first|apply Kd.R_alloc|apply Kd.R_drewN|apply Kd.R_drew));exact HO_374000.out⟩,⟨by (with_reducible repeat (first|apply Kd.R_alloc|apply Kd.R_drewN|apply Kd.R_drew));exact HO_374001.out⟩,⟨by (with_reducible repeat (first|refine blk_drewN ?_ _|refine blk_drew ?_|refine blk_alloc ?_ _));exact BK373.out⟩,⟨by repeat (first|(with_reducible first|exact HB.out|apply below_alloc|apply pw_below_drewN|apply below_drew1|refine below_set ?_ GE373.out)|exact HB.out)⟩⟩
       ·replace c24:=Bool.eq_false_iff.mpr c24
        subst c24
        have H1:(laws_FnForAll.l0 k1 t362 t363 x6_1 (wrap64 (x7_1 + 1)) t366 t369 t372) = some r:=by rw [if_neg (show ¬ (false = true) by decide)] at H;exact H
        clear H
        have H:=H1
        clear H1
        have H':=Aside0.mk H
        clear H
        have p382:0 ≤ (x7_1:Int):=of_decide_eq_true (by first|(with_reducible assumption)|assumption)
        have q382:x7_1 < (t362.length:Int):=of_decide_eq_true (by first|(with_reducible assumption)|assumption)
        obtain ⟨ad382,A382_0,c382_0,A382_1,c382_1,e382,hx382_0,hx382_1,hx382_2,hl382_0,hi382_0,hl382_1,hi382_1⟩:=at_T30 (Kd.S_reads' HO_3.out).2.2 x7_1 p382 q382
        cases e382
        obtain ⟨ce382,hce382,hMe382,hcc382⟩:=Kd.S_get HO_3.out z30 x7_1 p382 (by first|exact q382|exact of_decide_eq_true (by first|(with_reducible assumption)|assumption)|(have e_:=(Kd.S_reads' HO_3.out).1;omega))
        obtain ⟨ve382_0,ve382_1,rfl,ge382_0,ge382_1⟩:=k30_openM hMe382
        have hv382_0:=hcc382 0 _ rfl
        rw [Nat.add_zero] at hv382_0
        replace hv382_0:=Option.some.inj (hv382_0.symm.trans hx382_0)
        rw [hv382_0] at ge382_0
        have HL382_0:=Aside0.mk (show Kd.R Kd.string 9 _ _ _ _ ((rd_T30 t362 x7_1).f0) from ge382_0)
        clear hv382_0 ge382_0
        have hv382_1:=hcc382 1 _ rfl
        rw [add_field _ _ 1 (by omega)] at hv382_1
        replace hv382_1:=Option.some.inj (hv382_1.symm.trans hx382_1)
        rw [hv382_1] at ge382_1
        have HL382_1:=Aside0.mk (show Kd.R k57 57 _ _ _ _ ((rd_T30 t362 x7_1).f1) from ge382_1)
        clear hv382_1 ge382_1
        clear hcc382 hce382
        have HR382_0:=Aside0.mk hi382_0
        have HC382_0:=Aside0.mk hl382_0
        clear hi382_0 hl382_0
        have HR382_1:=Aside0.mk hi382_1
        have HC382_1:=Aside0.mk hl382_1
        clear hi382_1 hl382_1
        replace p382:=eq_true p382
        replace q382:=eq_true q382
        go_wp2_with (first|((with_reducible refine gate_callee (f:=16) rfl ?_);refine goesL_ (some 40) rfl rfl Try.func16 (by kernel_rfl) rfl #[.slice A382_0 ((rd_T30 t362 x7_1).f0).length c382_0, .string t363] rfl (by (try simp only [List.map_toArray,List.map_cons,List.map_nil]);first|done|rfl|(simp only [List.length_drop,List.length_take];rfl)) ?_;(with_reducible refine (laws_lpHas.calls k1 _ _ ((rd_T30 t362 x7_1).f0) t363 false _ ?side1 ?side2 A23.out).mono ?_);(case side1=>repeat (first|exact (by repeat (first|(with_reducible exact HR382_0.out)|(with_reducible refine Kd.C_alloc ?_ _)|(with_reducible refine Kd.C_drewN ?_ _)|(with_reducible refine Kd.C_drew ?_)|exact HR382_0.out))|(with_reducible refine Kd.C_alloc ?_ _)|(with_reducible refine Kd.C_drewN ?_ _)|(with_reducible refine Kd.C_drew ?_)));(case side2=>exact HC382_0.out);rintro e w' ⟨rfl,⟨nd,rfl⟩⟩;refine ⟨_,rfl,?_⟩))
        go_roundg k1
        case measure=>have:=HK1.out;omega
        case rel=>exact ⟨(x6_1),(wrap64 (x7_1 + 1)),(by first|rfl|(simp;done)|(simp only [i64_w,i32_w];done)|(simp only [i64_w,i32_w];rfl)|(simp [*];done)|(simp [emp_bne,emp_beq];done)),(by first|rfl|(simp;done)|(simp only [i64_w,i32_w];done)|(simp only [i64_w,i32_w];rfl)|(simp [*];done)|(simp [emp_bne,emp_beq];done)),H',⟨by have:=HK1.out;omega⟩,⟨by (with_reducible repeat (first|apply Kd.S_alloc|apply Kd.S_drewN|apply Kd.S_drew));exact HO_3.out⟩,⟨by (with_reducible repeat (first|apply Kd.R_alloc|apply Kd.R_drewN|apply Kd.R_drew));exact HO_374000.out⟩,⟨by (with_reducible repeat (first|apply Kd.R_alloc|apply Kd.R_drewN|apply Kd.R_drew));exact HO_374001.out⟩,⟨by (with_reducible repeat (first|refine blk_drewN ?_ _|refine blk_drew ?_|refine blk_alloc ?_ _));exact BK373.out⟩,⟨by repeat (first|(with_reducible first|exact HB.out|apply below_alloc|apply pw_below_drewN|apply below_drew1|refine below_set ?_ GE373.out)|exact HB.out)⟩⟩
      ·rw [if_neg c22] at H
       exact absurd H (by simp)
     ·rw [if_neg c21] at H
      have c21b0:decide (x7_1 < (t362.length:Int)) = false:=decide_eq_false c21
      clear c21
      obtain ⟨y384,hy384⟩:∃ y_:List (S57),y_ = (([]:List (S57))):=⟨_,rfl⟩
      replace H:(laws_FnForAll.l1 k1 t362 x6_1 y384 0 0 t366 t369 t372) = some r:=by first|(rw [hy384];with_reducible exact H)|(have H2_:=(Option.bind_some _ _).symm.trans H;rw [hy384];with_reducible exact H2_)|(have H2_:=(Option.bind_some _ _).symm.trans H;with_reducible exact H2_)|with_reducible exact H|(rw [hy384];exact H)|exact H
      have Ny384:=Aside0.mk hy384
      clear hy384
      have H':=Aside0.mk H
      clear H
      go_wp2_with (first|((with_reducible refine gate_dst (N:=42) rfl ?_);refine Kd.R_lit k57 _ 57 ?hg (N:=42) ?hd (xs:=([]:List (S57))) (inner:=[]) (ok:=fun _=>True) (okp:=fun _=>True) ?hr ?hp (fun _ hk=>hk) trivial (Below.refl _ _) (Nat.le_refl _) (by simp) ?_;(case hd=>rfl);(case hg=>rfl);(case hr=>first|(go_simp;done)|(go_simp;rfl));(case hp=>exact (Reps.none _ _));intro v385 w25 ho26 hb hg_ hnew_;clear hg_ hnew_;(first|rw [← Ny384.out] at ho26|(simp only [Int.reduceToNat] at ho26;rw [← Ny384.out] at ho26));have n0_:=Aside0.mk (Kd.S_elder' (by (with_reducible repeat (first|apply Kd.S_alloc|apply Kd.S_drewN|apply Kd.S_drew));exact HO_3.out) (Kd.R_base ho26) hb);have n1_:=Aside0.mk (Kd.R_below (by (with_reducible repeat (first|apply Kd.R_alloc|apply Kd.R_drewN|apply Kd.R_drew));exact HO_374000.out) hb);have n2_:=Aside0.mk (Kd.R_elder' (by (with_reducible repeat (first|apply Kd.R_alloc|apply Kd.R_drewN|apply Kd.R_drew));exact HO_374001.out) (Kd.R_base ho26) hb);have n3_:=Aside0.mk (Kd.R_lower (Kd.R_new' ho26 (Kd.R_lt (by (with_reducible repeat (first|apply Kd.R_alloc|apply Kd.R_drewN|apply Kd.R_drew));exact HO_374001.out))) (below_size (by repeat (first|(with_reducible first|exact HB.out|apply below_alloc|apply pw_below_drewN|apply below_drew1|refine below_set ?_ GE373.out)|exact HB.out))));have n4_:=Aside0.mk (blk_below (g:=gb373) (o:=.cells #[.slice Ao12 t366.length co12, .slice Ao14 t369.length co14, .int .i64 t372] 30 (0,0)) (by (with_reducible repeat (first|refine blk_drewN ?_ _|refine blk_drew ?_|refine blk_alloc ?_ _));exact BK373.out) hb);have n5_:=Aside0.mk (below_step (by repeat (first|(with_reducible first|exact HB.out|apply below_alloc|apply pw_below_drewN|apply below_drew1|refine below_set ?_ GE373.out)|exact HB.out)) hb);clear HO_3;clear HO_374000;clear HO_374001;clear BK373;clear HB;have HO_3:=n0_;have HO_374000:=n1_;have HO_374001:=n2_;have HO386:=n3_;have BK373:=n4_;have HB:=n5_;clear n0_ n1_ n2_ n3_ n4_ n5_;clear hb ho26))
      go_loopg [8,9,10] k1 (fun kq v8 v9 v10 w'=>∃ (x8_2:List (S57)) (x9_2:Int) (x10_2:Int),v9 = .int .i64 x9_2 ∧ v10 = .int .i64 x10_2 ∧ Aside0 (laws_FnForAll.l1 kq t362 x6_1 x8_2 x9_2 x10_2 t366 t369 t372 = some r) ∧ Aside0 (kq ≤ k1) ∧ Aside0 (Kd.S k30 30 w' w.heap.size (fun k_=>some k_ ≠ (v8:Value).ownBlock ∧ some k_ ≠ ((.slice Ao12 t366.length co12):Value).ownBlock ∧ some k_ ≠ ((.slice Ao14 t369.length co14):Value).ownBlock ∧ k_ ≠ gb373) (.slice Ao9 t362.length co9) t362) ∧ Aside0 (Kd.R k57 57 w' w.heap.size (fun k_=>some k_ ≠ ((.slice Ao14 t369.length co14):Value).ownBlock) v8 x8_2) ∧ Aside0 (Kd.R Kd.string 9 w' w.heap.size (fun _=>True) (.slice Ao12 t366.length co12) t366) ∧ Aside0 (Kd.R k57 57 w' w.heap.size (fun k_=>some k_ ≠ (v8:Value).ownBlock) (.slice Ao14 t369.length co14) t369) ∧ Aside0 (w'.heap[gb373]? = some (.cells #[(.slice Ao12 t366.length co12),(.slice Ao14 t369.length co14), .int .i64 t372] 30 (0,0))) ∧ Aside0 (Below w.heap.size w w'))
      case atStart=>exact ⟨(y384),(0),(0),(by first|rfl|(simp;done)|(simp only [i64_w,i32_w];done)|(simp only [i64_w,i32_w];rfl)|(simp [*];done)|(simp [emp_bne,emp_beq];done)),(by first|rfl|(simp;done)|(simp only [i64_w,i32_w];done)|(simp only [i64_w,i32_w];rfl)|(simp [*];done)|(simp [emp_bne,emp_beq];done)),H',⟨Nat.le_refl _⟩,⟨by (with_reducible repeat (first|apply Kd.S_alloc|apply Kd.S_drewN|apply Kd.S_drew));exact Kd.S_mono HO_3.out (fun _ hk=>⟨hk.2,⟨hk.1.1,⟨hk.1.2.1,hk.1.2.2⟩⟩⟩)⟩,⟨by (with_reducible repeat (first|apply Kd.R_alloc|apply Kd.R_drewN|apply Kd.R_drew));exact Kd.R_mono HO386.out (fun _ hk=>hk.2)⟩,⟨by (with_reducible repeat (first|apply Kd.R_alloc|apply Kd.R_drewN|apply Kd.R_drew));exact HO_374000.out⟩,⟨by (with_reducible repeat (first|apply Kd.R_alloc|apply Kd.R_drewN|apply Kd.R_drew));exact Kd.R_mono HO_374001.out (fun _ hk=>hk.2)⟩,⟨by (with_reducible repeat (first|refine blk_drewN ?_ _|refine blk_drew ?_|refine blk_alloc ?_ _));exact BK373.out⟩,⟨by repeat (first|(with_reducible first|exact HB.out|apply below_alloc|apply pw_below_drewN|apply below_drew1|refine below_set ?_ GE373.out)|exact HB.out)⟩⟩
      case round =>
       clear H'
       try clear c1
       try clear c2
       try clear c2b0
       try clear c2b1
       try clear p2
       try clear c3
       try clear p3
       try clear q3
       try clear hx3
       try clear c6
       try clear p6
       try clear c7
       try clear c11
       try clear c12
       try clear c13
       try clear c14
       try clear c16
       try clear c21
       try clear c21b0
       try clear c22
       try clear c22b0
       try clear c24
       try clear hcz13_0
       try clear hcz13_1
       try clear hcz13_2
       try clear hfz13_0
       try clear hfz13_1
       try clear hfz13_2
       try clear hx382_0
       try clear hx382_1
       try clear hx382_2
       try clear p2
       try clear p382
       try clear q382
       obtain ⟨x8_2,x9_2,x10_2,rfl,rfl,HA,HK2,HO_3,HO_8,HO_374000,HO_374001,BK373,HB⟩:=hrel
       cases gk with
       | zero=>exact absurd HA.out (by simp [laws_FnForAll.l1])
       | succ k2 =>
        have H:=HA.out
        clear HA
        simp only [laws_FnForAll.l1] at H
        by_cases c27:x10_2 < (t362.length:Int)
        ·rw [if_pos c27] at H
         have c27b0:decide (x10_2 < (t362.length:Int)) = true:=decide_eq_true c27
         clear c27
         by_cases c28:0 ≤ x10_2
         ·rw [if_pos c28] at H
          have c28b0:decide (0 ≤ x10_2) = true:=decide_eq_true c28
          clear c28
          replace H:=Option.bind_eq_some_iff.mp H
          obtain ⟨t388,A290,H⟩:=H
          replace H:(if t388 = true then (if x8_2.length + ((rd_T30 t362 x10_2).f1).length < 5864062014805 then (laws_FnForAll.l1 k2 t362 x6_1 (x8_2 ++ ((rd_T30 t362 x10_2).f1)) (mx x9_2 ((rd_T30 t362 x10_2).f2)) (wrap64 (x10_2 + 1)) t366 t369 t372) else (none)) else (laws_FnForAll.l1 k2 t362 x6_1 x8_2 x9_2 (wrap64 (x10_2 + 1)) t366 t369 t372)) = some r:=H
          have A29:=Aside0.mk A290
          clear A290
          by_cases c30:t388 = true
          ·subst c30
           have H1:(if x8_2.length + ((rd_T30 t362 x10_2).f1).length < 5864062014805 then (laws_FnForAll.l1 k2 t362 x6_1 (x8_2 ++ ((rd_T30 t362 x10_2).f1)) (mx x9_2 ((rd_T30 t362 x10_2).f2)) (wrap64 (x10_2 + 1)) t366 t369 t372) else (none)) = some r:=by rw [if_pos rfl] at H;exact H
           clear H
           have H:=H1
           clear H1
           by_cases c31:x8_2.length + ((rd_T30 t362 x10_2).f1).length < 5864062014805
           ·rw [if_pos c31] at H
            have LMc31:=Aside0.mk c31
            clear c31
            obtain ⟨y390,hy390⟩:∃ y_:List (S57),y_ = (x8_2 ++ ((rd_T30 t362 x10_2).f1)):=⟨_,rfl⟩
            replace H:(laws_FnForAll.l1 k2 t362 x6_1 y390 (mx x9_2 ((rd_T30 t362 x10_2).f2)) (wrap64 (x10_2 + 1)) t366 t369 t372) = some r:=by first|(rw [hy390];with_reducible exact H)|(have H2_:=(Option.bind_some _ _).symm.trans H;rw [hy390];with_reducible exact H2_)|(have H2_:=(Option.bind_some _ _).symm.trans H;with_reducible exact H2_)|with_reducible exact H|(rw [hy390];exact H)|exact H
            have Ny390:=Aside0.mk hy390
            clear hy390
            obtain ⟨ji32,hji32⟩:∃ j_:Int,(mx x9_2 ((rd_T30 t362 x10_2).f2)) = j_:=⟨_,rfl⟩
            replace H:(laws_FnForAll.l1 k2 t362 x6_1 y390 ji32 (wrap64 (x10_2 + 1)) t366 t369 t372) = some r:=by first|(rw [hji32] at H;exact H)|(simp only [hji32] at H ⊢;exact H)
            (try rw [hji32] at A29)
            have hji32_:(if x9_2 < ((rd_T30 t362 x10_2).f2) then ((rd_T30 t362 x10_2).f2) else x9_2) = ji32:=hji32
            have H':=Aside0.mk H
            clear H
            have p387:0 ≤ (x10_2:Int):=of_decide_eq_true (by first|(with_reducible assumption)|assumption)
            have q387:x10_2 < (t362.length:Int):=of_decide_eq_true (by first|(with_reducible assumption)|assumption)
            obtain ⟨ad387,A387_0,c387_0,A387_1,c387_1,e387,hx387_0,hx387_1,hx387_2,hl387_0,hi387_0,hl387_1,hi387_1⟩:=at_T30 (Kd.S_reads' HO_3.out).2.2 x10_2 p387 q387
            cases e387
            obtain ⟨ce387,hce387,hMe387,hcc387⟩:=Kd.S_get HO_3.out z30 x10_2 p387 (by first|exact q387|exact of_decide_eq_true (by first|(with_reducible assumption)|assumption)|(have e_:=(Kd.S_reads' HO_3.out).1;omega))
            obtain ⟨ve387_0,ve387_1,rfl,ge387_0,ge387_1⟩:=k30_openM hMe387
            have hv387_0:=hcc387 0 _ rfl
            rw [Nat.add_zero] at hv387_0
            replace hv387_0:=Option.some.inj (hv387_0.symm.trans hx387_0)
            rw [hv387_0] at ge387_0
            have HL387_0:=Aside0.mk (show Kd.R Kd.string 9 _ _ _ _ ((rd_T30 t362 x10_2).f0) from ge387_0)
            clear hv387_0 ge387_0
            have hv387_1:=hcc387 1 _ rfl
            rw [add_field _ _ 1 (by omega)] at hv387_1
            replace hv387_1:=Option.some.inj (hv387_1.symm.trans hx387_1)
            rw [hv387_1] at ge387_1
            have HL387_1:=Aside0.mk (show Kd.R k57 57 _ _ _ _ ((rd_T30 t362 x10_2).f1) from ge387_1)
            clear hv387_1 ge387_1
            clear hcc387 hce387
            have HR387_0:=Aside0.mk hi387_0
            have HC387_0:=Aside0.mk hl387_0
            clear hi387_0 hl387_0
            have HR387_1:=Aside0.mk hi387_1
            have HC387_1:=Aside0.mk hl387_1
            clear hi387_1 hl387_1
            replace p387:=eq_true p387
            replace q387:=eq_true q387
            go_wp2_with (first|((with_reducible refine gate_callee (f:=16) rfl ?_);refine goesL_ (some 55) rfl rfl Try.func16 (by kernel_rfl) rfl #[.slice A387_0 ((rd_T30 t362 x10_2).f0).length c387_0, .string x6_1] rfl (by (try simp only [List.map_toArray,List.map_cons,List.map_nil]);first|done|rfl|(simp only [List.length_drop,List.length_take];rfl)) ?_;(with_reducible refine (laws_lpHas.calls k2 _ _ ((rd_T30 t362 x10_2).f0) x6_1 true _ ?side1 ?side2 A29.out).mono ?_);(case side1=>repeat (first|exact (by repeat (first|(with_reducible exact HR387_0.out)|(with_reducible refine Kd.C_alloc ?_ _)|(with_reducible refine Kd.C_drewN ?_ _)|(with_reducible refine Kd.C_drew ?_)|exact HR387_0.out))|(with_reducible refine Kd.C_alloc ?_ _)|(with_reducible refine Kd.C_drewN ?_ _)|(with_reducible refine Kd.C_drew ?_)));(case side2=>exact HC387_0.out);rintro e w' ⟨rfl,⟨nd,rfl⟩⟩;refine ⟨_,rfl,?_⟩;have p389:0 ≤ (x10_2:Int):=of_decide_eq_true (by first|(with_reducible assumption)|assumption);have q389:x10_2 < (t362.length:Int):=of_decide_eq_true (by first|(with_reducible assumption)|assumption);obtain ⟨ad389,A389_0,c389_0,A389_1,c389_1,e389,hx389_0,hx389_1,hx389_2,hl389_0,hi389_0,hl389_1,hi389_1⟩:=at_T30 (Kd.S_reads' HO_3.out).2.2 x10_2 p389 q389;obtain rfl:ad387 = ad389:=(by injection e389);obtain ⟨ce389,hce389,hMe389,hcc389⟩:=Kd.S_get HO_3.out z30 x10_2 p389 (by first|exact q389|exact of_decide_eq_true (by first|(with_reducible assumption)|assumption)|(have e_:=(Kd.S_reads' HO_3.out).1;omega));obtain ⟨ve389_0,ve389_1,rfl,ge389_0,ge389_1⟩:=k30_openM hMe389;have hv389_0:=hcc389 0 _ rfl;rw [Nat.add_zero] at hv389_0;replace hv389_0:=Option.some.inj (hv389_0.symm.trans hx389_0);rw [hv389_0] at ge389_0;have HL389_0:=Aside0.mk (show Kd.R Kd.string 9 _ _ _ _ ((rd_T30 t362 x10_2).f0) from ge389_0);clear hv389_0 ge389_0;have hv389_1:=hcc389 1 _ rfl;rw [add_field _ _ 1 (by omega)] at hv389_1;replace hv389_1:=Option.some.inj (hv389_1.symm.trans hx389_1);rw [hv389_1] at ge389_1;have HL389_1:=Aside0.mk (show Kd.R k57 57 _ _ _ _ ((rd_T30 t362 x10_2).f1) from ge389_1);clear hv389_1 ge389_1;clear hcc389 hce389;have HR389_0:=Aside0.mk hi389_0;have HC389_0:=Aside0.mk hl389_0;clear hi389_0 hl389_0;have HR389_1:=Aside0.mk hi389_1;have HC389_1:=Aside0.mk hl389_1;clear hi389_1 hl389_1;replace p389:=eq_true p389;replace q389:=eq_true q389;have ea_:=Option.some.inj (hx387_0.symm.trans hx389_0);injection ea_ with ea_ en_ ec_;subst ea_;subst ec_;clear en_;have ea_:=Option.some.inj (hx387_1.symm.trans hx389_1);injection ea_ with ea_ en_ ec_;subst ea_;subst ec_;clear en_)|((with_reducible refine gate_builtin (b:=.append) (xs:=#[.tmp 56, .tmp 61]) rfl ?_);at_builtin;refine Kd.R_append_rows k57 (w0:=w) w.heap.size rfl (.tmp 56) (.tmp 61) 28 57 (.agg #[(.bool false),(.string ⟨#[]⟩)]) 24 rfl Try.underlying28 info57 rfl (by decide) (by omega) u8 x8_2 ((rd_T30 t362 x10_2).f1) _ _ _ (fun k_=>some k_ ≠ (.slice Ao14 t369.length co14:Value).ownBlock) (fun _=>False) rfl rfl ?aO ?aR (fun _ _ h=>h) (fun _ h=>h.elim) ?aF ?aB ?aS ?aL ?_;(case aR=>repeat (first|exact (by repeat (first|(with_reducible exact HR389_1.out)|(with_reducible refine Kd.C_alloc ?_ _)|(with_reducible refine Kd.C_drewN ?_ _)|(with_reducible refine Kd.C_drew ?_)|exact HR389_1.out))|(with_reducible refine Kd.C_alloc ?_ _)|(with_reducible refine Kd.C_drewN ?_ _)|(with_reducible refine Kd.C_drew ?_)));(case aB=>exact (by repeat (first|(with_reducible first|exact HB.out|apply below_alloc|apply pw_below_drewN|apply below_drew1|refine below_set ?_ GE373.out)|exact HB.out)));(case aF=>exact (fun k_ hk=>Kd.fresh' (Kd.R_lt (by (with_reducible repeat (first|apply Kd.R_alloc|apply Kd.R_drewN|apply Kd.R_drew));exact HO_374001.out)) k_ hk));(case aO=>exact (by (with_reducible repeat (first|apply Kd.R_alloc|apply Kd.R_drewN|apply Kd.R_drew));exact HO_8.out));(case aS=>exact (below_size (by repeat (first|(with_reducible first|exact HB.out|apply below_alloc|apply pw_below_drewN|apply below_drew1|refine below_set ?_ GE373.out)|exact HB.out))));(case aL=>have:=LMc31.out;omega);intro v391 w33 ho hb hg hat;rw [← Ny390.out] at ho;have n0_:=Aside0.mk (Kd.S_after (ok:=(fun k_=>some k_ ≠ (.slice Ao12 t366.length co12:Value).ownBlock ∧ some k_ ≠ (.slice Ao14 t369.length co14:Value).ownBlock ∧ k_ ≠ gb373)) (by (with_reducible repeat (first|apply Kd.S_alloc|apply Kd.S_drewN|apply Kd.S_drew));exact Kd.S_mono HO_3.out (fun _ hk=>⟨⟨hk.2.1,⟨hk.2.2.1,hk.2.2.2⟩⟩,hk.1⟩)) hg hat);have n1_:=Aside0.mk (Kd.R_over' (by (with_reducible repeat (first|apply Kd.R_alloc|apply Kd.R_drewN|apply Kd.R_drew));exact HO_374000.out) (Kd.R_typed (by (with_reducible repeat (first|apply Kd.R_alloc|apply Kd.R_drewN|apply Kd.R_drew));exact HO_8.out)) (by decide) hg);have n2_:=Aside0.mk (Kd.R_after (ok:=(fun _=>True)) (by (with_reducible repeat (first|apply Kd.R_alloc|apply Kd.R_drewN|apply Kd.R_drew));exact Kd.R_mono HO_374001.out (fun _ hk=>⟨trivial,hk⟩)) hg hat);have n3_:=Aside0.mk (blk_grown (g:=gb373) (o:=.cells #[.slice Ao12 t366.length co12, .slice Ao14 t369.length co14, .int .i64 t372] 30 (0,0)) (by (with_reducible repeat (first|refine blk_drewN ?_ _|refine blk_drew ?_|refine blk_alloc ?_ _));exact BK373.out) hg (Kd.R_ne HO_8.out BK373.out (by decide)));have n4_:=Aside0.mk (Kd.R_after (ok:=(fun k_=>some k_ ≠ (.slice (some ad387) t362.length co9:Value).ownBlock ∧ some k_ ≠ (.slice Ao12 t366.length co12:Value).ownBlock ∧ some k_ ≠ (.slice Ao14 t369.length co14:Value).ownBlock ∧ k_ ≠ gb373)) (by (with_reducible repeat (first|apply Kd.R_alloc|apply Kd.R_drewN|apply Kd.R_drew));exact Kd.R_mono HL387_0.out (fun _ hk=>⟨⟨hk.2,⟨hk.1.2.1,⟨hk.1.2.2.1,hk.1.2.2.2⟩⟩⟩,hk.1.1⟩)) hg hat);have n5_:=Aside0.mk (Kd.R_after (ok:=(fun k_=>some k_ ≠ (.slice (some ad387) t362.length co9:Value).ownBlock ∧ some k_ ≠ (.slice Ao12 t366.length co12:Value).ownBlock ∧ some k_ ≠ (.slice Ao14 t369.length co14:Value).ownBlock ∧ k_ ≠ gb373)) (by (with_reducible repeat (first|apply Kd.R_alloc|apply Kd.R_drewN|apply Kd.R_drew));exact Kd.R_mono HL387_1.out (fun _ hk=>⟨⟨hk.2,⟨hk.1.2.1,⟨hk.1.2.2.1,hk.1.2.2.2⟩⟩⟩,hk.1.1⟩)) hg hat);have n6_:=Aside0.mk (Kd.R_after (ok:=(fun k_=>some k_ ≠ (.slice (some ad387) t362.length co9:Value).ownBlock ∧ some k_ ≠ (.slice Ao12 t366.length co12:Value).ownBlock ∧ some k_ ≠ (.slice Ao14 t369.length co14:Value).ownBlock ∧ k_ ≠ gb373)) (by (with_reducible repeat (first|apply Kd.R_alloc|apply Kd.R_drewN|apply Kd.R_drew));exact Kd.R_mono HL389_0.out (fun _ hk=>⟨⟨hk.2,⟨hk.1.2.1,⟨hk.1.2.2.1,hk.1.2.2.2⟩⟩⟩,hk.1.1⟩)) hg hat);have n7_:=Aside0.mk (Kd.R_after (ok:=(fun k_=>some k_ ≠ (.slice (some ad387) t362.length co9:Value).ownBlock ∧ some k_ ≠ (.slice Ao12 t366.length co12:Value).ownBlock ∧ some k_ ≠ (.slice Ao14 t369.length co14:Value).ownBlock ∧ k_ ≠ gb373)) (by (with_reducible repeat (first|apply Kd.R_alloc|apply Kd.R_drewN|apply Kd.R_drew));exact Kd.R_mono HL389_1.out (fun _ hk=>⟨⟨hk.2,⟨hk.1.2.1,⟨hk.1.2.2.1,hk.1.2.2.2⟩⟩⟩,hk.1.1⟩)) hg hat);have n8_:=Aside0.mk (hb);have n9_:=Aside0.mk (ho);clear HO_3;clear HO_374000;clear HO_374001;clear BK373;clear HL387_0;clear HL387_1;clear HL389_0;clear HL389_1;clear HB;clear HO_8;have HO_3:=n0_;have HO_374000:=n1_;have HO_374001:=n2_;have BK373:=n3_;have HL387_0:=n4_;have HL387_1:=n5_;have HL389_0:=n6_;have HL389_1:=n7_;have HB:=n8_;have HO392:=n9_;clear n0_ n1_ n2_ n3_ n4_ n5_ n6_ n7_ n8_ n9_;clear ho hb hg hat;have p393:0 ≤ (x10_2:Int):=of_decide_eq_true (by first|(with_reducible assumption)|assumption);have q393:x10_2 < (t362.length:Int):=of_decide_eq_true (by first|(with_reducible assumption)|assumption);obtain ⟨ad393,A393_0,c393_0,A393_1,c393_1,e393,hx393_0,hx393_1,hx393_2,hl393_0,hi393_0,hl393_1,hi393_1⟩:=at_T30 (Kd.S_reads' HO_3.out).2.2 x10_2 p393 q393;obtain rfl:ad387 = ad393:=(by injection e393);obtain ⟨ce393,hce393,hMe393,hcc393⟩:=Kd.S_get HO_3.out z30 x10_2 p393 (by first|exact q393|exact of_decide_eq_true (by first|(with_reducible assumption)|assumption)|(have e_:=(Kd.S_reads' HO_3.out).1;omega));obtain ⟨ve393_0,ve393_1,rfl,ge393_0,ge393_1⟩:=k30_openM hMe393;have hv393_0:=hcc393 0 _ rfl;rw [Nat.add_zero] at hv393_0;replace hv393_0:=Option.some.inj (hv393_0.symm.trans hx393_0);rw [hv393_0] at ge393_0;have HL393_0:=Aside0.mk (show Kd.R Kd.string 9 _ _ _ _ ((rd_T30 t362 x10_2).f0) from ge393_0);clear hv393_0 ge393_0;have hv393_1:=hcc393 1 _ rfl;rw [add_field _ _ 1 (by omega)] at hv393_1;replace hv393_1:=Option.some.inj (hv393_1.symm.trans hx393_1);rw [hv393_1] at ge393_1;have HL393_1:=Aside0.mk (show Kd.R k57 57 _ _ _ _ ((rd_T30 t362 x10_2).f1) from ge393_1);clear hv393_1 ge393_1;clear hcc393 hce393;have HR393_0:=Aside0.mk hi393_0;have HC393_0:=Aside0.mk hl393_0;clear hi393_0 hl393_0;have HR393_1:=Aside0.mk hi393_1;have HC393_1:=Aside0.mk hl393_1;clear hi393_1 hl393_1;replace p393:=eq_true p393;replace q393:=eq_true q393))
            go_roundg k2
            case measure=>have:=HK1.out;have:=HK2.out;omega
            case rel=>exact ⟨(y390),(ji32),(wrap64 (x10_2 + 1)),(by first|rfl|(simp only [i64_w,i32_w];done)|(simp only [i64_w,i32_w];rfl)|(simp;done)|(simp only [← hji32] <;> (first|rfl|simp))|(simp [*];done)),(by first|rfl|(simp;done)|(simp only [i64_w,i32_w];done)|(simp only [i64_w,i32_w];rfl)|(simp [*];done)|(simp [emp_bne,emp_beq];done)),H',⟨by have:=HK1.out;have:=HK2.out;omega⟩,⟨by (with_reducible repeat (first|apply Kd.S_alloc|apply Kd.S_drewN|apply Kd.S_drew));exact Kd.S_mono HO_3.out (fun _ hk=>⟨hk.2,⟨hk.1.1,⟨hk.1.2.1,hk.1.2.2⟩⟩⟩)⟩,⟨by (with_reducible repeat (first|apply Kd.R_alloc|apply Kd.R_drewN|apply Kd.R_drew));exact HO392.out⟩,⟨by (with_reducible repeat (first|apply Kd.R_alloc|apply Kd.R_drewN|apply Kd.R_drew));exact HO_374000.out⟩,⟨by (with_reducible repeat (first|apply Kd.R_alloc|apply Kd.R_drewN|apply Kd.R_drew));exact Kd.R_mono HO_374001.out (fun _ hk=>hk.2)⟩,⟨by (with_reducible repeat (first|refine blk_drewN ?_ _|refine blk_drew ?_|refine blk_alloc ?_ _));exact BK373.out⟩,⟨by repeat (first|(with_reducible first|exact HB.out|apply below_alloc|apply pw_below_drewN|apply below_drew1|refine below_set ?_ GE373.out)|exact HB.out)⟩⟩
           ·rw [if_neg c31] at H
            exact absurd H (by simp)
          ·replace c30:=Bool.eq_false_iff.mpr c30
           subst c30
           have H1:(laws_FnForAll.l1 k2 t362 x6_1 x8_2 x9_2 (wrap64 (x10_2 + 1)) t366 t369 t372) = some r:=by rw [if_neg (show ¬ (false = true) by decide)] at H;exact H
           clear H
           have H:=H1
           clear H1
           have H':=Aside0.mk H
           clear H
           have p387:0 ≤ (x10_2:Int):=of_decide_eq_true (by first|(with_reducible assumption)|assumption)
           have q387:x10_2 < (t362.length:Int):=of_decide_eq_true (by first|(with_reducible assumption)|assumption)
           obtain ⟨ad387,A387_0,c387_0,A387_1,c387_1,e387,hx387_0,hx387_1,hx387_2,hl387_0,hi387_0,hl387_1,hi387_1⟩:=at_T30 (Kd.S_reads' HO_3.out).2.2 x10_2 p387 q387
           cases e387
           obtain ⟨ce387,hce387,hMe387,hcc387⟩:=Kd.S_get HO_3.out z30 x10_2 p387 (by first|exact q387|exact of_decide_eq_true (by first|(with_reducible assumption)|assumption)|(have e_:=(Kd.S_reads' HO_3.out).1;omega))
           obtain ⟨ve387_0,ve387_1,rfl,ge387_0,ge387_1⟩:=k30_openM hMe387
           have hv387_0:=hcc387 0 _ rfl
           rw [Nat.add_zero] at hv387_0
           replace hv387_0:=Option.some.inj (hv387_0.symm.trans hx387_0)
           rw [hv387_0] at ge387_0
           have HL387_0:=Aside0.mk (show Kd.R Kd.string 9 _ _ _ _ ((rd_T30 t362 x10_2).f0) from ge387_0)
           clear hv387_0 ge387_0
           have hv387_1:=hcc387 1 _ rfl
           rw [add_field _ _ 1 (by omega)] at hv387_1
           replace hv387_1:=Option.some.inj (hv387_1.symm.trans hx387_1)
           rw [hv387_1] at ge387_1
           have HL387_1:=Aside0.mk (show Kd.R k57 57 _ _ _ _ ((rd_T30 t362 x10_2).f1) from ge387_1)
           clear hv387_1 ge387_1
           clear hcc387 hce387
           have HR387_0:=Aside0.mk hi387_0
           have HC387_0:=Aside0.mk hl387_0
           clear hi387_0 hl387_0
           have HR387_1:=Aside0.mk hi387_1
           have HC387_1:=Aside0.mk hl387_1
           clear hi387_1 hl387_1
           replace p387:=eq_true p387
           replace q387:=eq_true q387
           go_wp2_with (first|((with_reducible refine gate_callee (f:=16) rfl ?_);refine goesL_ (some 55) rfl rfl Try.func16 (by kernel_rfl) rfl #[.slice A387_0 ((rd_T30 t362 x10_2).f0).length c387_0, .string x6_1] rfl (by (try simp only [List.map_toArray,List.map_cons,List.map_nil]);first|done|rfl|(simp only [List.length_drop,List.length_take];rfl)) ?_;(with_reducible refine (laws_lpHas.calls k2 _ _ ((rd_T30 t362 x10_2).f0) x6_1 false _ ?side1 ?side2 A29.out).mono ?_);(case side1=>repeat (first|exact (by repeat (first|(with_reducible exact HR387_0.out)|(with_reducible refine Kd.C_alloc ?_ _)|(with_reducible refine Kd.C_drewN ?_ _)|(with_reducible refine Kd.C_drew ?_)|exact HR387_0.out))|(with_reducible refine Kd.C_alloc ?_ _)|(with_reducible refine Kd.C_drewN ?_ _)|(with_reducible refine Kd.C_drew ?_)));(case side2=>exact HC387_0.out);rintro e w' ⟨rfl,⟨nd,rfl⟩⟩;refine ⟨_,rfl,?_⟩))
           go_roundg k2
           case measure=>have:=HK1.out;have:=HK2.out;omega
           case rel=>exact ⟨(x8_2),(x9_2),(wrap64 (x10_2 + 1)),(by first|rfl|(simp;done)|(simp only [i64_w,i32_w];done)|(simp only [i64_w,i32_w];rfl)|(simp [*];done)|(simp [emp_bne,emp_beq];done)),(by first|rfl|(simp;done)|(simp only [i64_w,i32_w];done)|(simp only [i64_w,i32_w];rfl)|(simp [*];done)|(simp [emp_bne,emp_beq];done)),H',⟨by have:=HK1.out;have:=HK2.out;omega⟩,⟨by (with_reducible repeat (first|apply Kd.S_alloc|apply Kd.S_drewN|apply Kd.S_drew));exact HO_3.out⟩,⟨by (with_reducible repeat (first|apply Kd.R_alloc|apply Kd.R_drewN|apply Kd.R_drew));exact HO_8.out⟩,⟨by (with_reducible repeat (first|apply Kd.R_alloc|apply Kd.R_drewN|apply Kd.R_drew));exact HO_374000.out⟩,⟨by (with_reducible repeat (first|apply Kd.R_alloc|apply Kd.R_drewN|apply Kd.R_drew));exact HO_374001.out⟩,⟨by (with_reducible repeat (first|refine blk_drewN ?_ _|refine blk_drew ?_|refine blk_alloc ?_ _));exact BK373.out⟩,⟨by repeat (first|(with_reducible first|exact HB.out|apply below_alloc|apply pw_below_drewN|apply below_drew1|refine below_set ?_ GE373.out)|exact HB.out)⟩⟩
         ·rw [if_neg c28] at H
          exact absurd H (by simp)
        ·rw [if_neg c27] at H
         have c27b0:decide (x10_2 < (t362.length:Int)) = false:=decide_eq_false c27
         clear c27
         replace H:=Option.bind_eq_some_iff.mp H
         obtain ⟨t394,A340,H⟩:=H
         replace H:(if t394 = true then (some (t372 == x9_2)) else (none)) = some r:=H
         have A34:=Aside0.mk A340
         clear A340
         by_cases c35:t394 = true
         ·subst c35
          have H1:(some (t372 == x9_2)) = some r:=by rw [if_pos rfl] at H;exact H
          clear H
          have H:=H1
          clear H1
          obtain rfl:=Option.some.inj H
          have hcz36_0:wr.cell? ⟨gb373,0,none⟩ = some (.slice Ao12 t366.length co12):=(blk_cell BK373.out 0).trans rfl
          have hcz36_1:wr.cell? ⟨gb373,1,none⟩ = some (.slice Ao14 t369.length co14):=(blk_cell BK373.out 1).trans rfl
          have hcz36_2:wr.cell? ⟨gb373,2,none⟩ = some (.int .i64 t372):=(blk_cell BK373.out 2).trans rfl
          have hfz36_0:=blk_frozen BK373.out 0
          have hfz36_1:=blk_frozen BK373.out 1
          have hfz36_2:=blk_frozen BK373.out 2
          obtain ⟨Ao37,co37,eo37⟩:=Kd.R_slice HO_8.out
          subst eo37
          go_wp2_with (first|((with_reducible refine gate_callee (f:=15) rfl ?_);refine goesL_ (some 73) rfl rfl Try.func15 (by kernel_rfl) rfl #[.slice Ao14 t369.length co14, .slice Ao37 x8_2.length co37] rfl (by (try simp only [List.map_toArray,List.map_cons,List.map_nil]);first|done|rfl|(simp only [List.length_drop,List.length_take];rfl)) ?_;(with_reducible refine (laws_lpRules.calls k2 _ _ t369 _ _ x8_2 true _ ?side1 ?side2 ?side3 ?side4 A34.out).mono ?_);(case side1=>repeat (first|exact (Kd.R_reads' HO_374001.out).2.2|(with_reducible refine Kd.C_alloc ?_ _)|(with_reducible refine Kd.C_drewN ?_ _)|(with_reducible refine Kd.C_drew ?_)));(case side2=>exact (Kd.R_reads' HO_374001.out).2.1);(case side3=>repeat (first|exact (Kd.R_reads' HO_8.out).2.2|(with_reducible refine Kd.C_alloc ?_ _)|(with_reducible refine Kd.C_drewN ?_ _)|(with_reducible refine Kd.C_drew ?_)));(case side4=>exact (Kd.R_reads' HO_8.out).2.1);rintro e w' ⟨rfl,⟨nd,rfl⟩⟩;refine ⟨_,rfl,?_⟩))
          go_ret
          exact ⟨by first|rfl|(simp <;> rfl)|(simp [*] <;> rfl),by repeat (first|(with_reducible first|exact HB.out|apply below_alloc|apply pw_below_drewN|apply below_drew1|refine below_set ?_ GE373.out)|exact HB.out)⟩
         ·replace c35:=Bool.eq_false_iff.mpr c35
          subst c35
          have H1:(none) = some r:=by rw [if_neg (show ¬ (false = true) by decide)] at H;exact H
          clear H
          have H:=H1
          clear H1
          exact absurd H (by simp)
  ·replace c7:=Bool.eq_false_iff.mpr c7
   subst c7
   have H1:(none) = some r:=by rw [if_neg (show ¬ (false = true) by decide)] at H;exact H
   clear H
   have H:=H1
   clear H1
   exact absurd H (by simp)

/-- THE ONE PURE STATEMENT of laws_FnForAll: yours. -/
def laws_FnForAll.Pure:Prop:=∀ (l0:List Int),l0.length ≤ maxLen → l0.length * 1 ≤ 140737488351232 → (∀ x ∈ l0,(Lit.int .u8 x).wf = true) → ∃ k,laws_FnForAll.f k l0 = some true
end Go.Proofs.Ytheakfegchndcaa.P
