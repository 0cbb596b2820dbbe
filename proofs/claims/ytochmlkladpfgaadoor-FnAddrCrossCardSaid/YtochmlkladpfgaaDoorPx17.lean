-- Written by a program of this session (patch_print.py over the kit's print; given texts in wip/given).
import Derived.Test.YtochmlkladpfgaaDoorPx0
import Derived.Test.YtochmlkladpfgaaDoorPx2
import Derived.Test.YtochmlkladpfgaaDoorPx5
namespace Go.Proofs.YtochmlkladpfgaaDoor.P
open Go.RowKit Go.Proofs.YtochmlkladpfgaaDoorW.PrintWords Go.Proofs.YtochmlkladpfgaaDoorW.PrintLast Go.Proofs.YtochmlkladpfgaaDoorW.PrintMore
attribute [local go_sem] max2_int min2_int max_two min_two max_three min_three max_four min_four   -- for this text's walks alone
set_option linter.unusedVariables false
set_option linter.unusedSimpArgs false
set_option maxHeartbeats 8000000
set_option maxRecDepth 100000

/-! ### impl_AddrText: function 14 -/
def impl_AddrText.f (k:Nat) (a0_0:ByteArray) (l0_1:List ByteArray) (a0_2:Bool) (a0_3:ByteArray):Option (ByteArray):=(impl_AddrOk.f k a0_0 l0_1 a0_2 a0_3).bind fun t426=>(if t426 = true then ((impl_writeAddr.f a0_0 l0_1 a0_2 a0_3).bind fun t427=>(some t427)) else (some (⟨#[]⟩:ByteArray)))
theorem impl_AddrText.mono:∀ a0 a1 a2 a3 k,LeO (impl_AddrText.f k a0 a1 a2 a3) (impl_AddrText.f (k + 1) a0 a1 a2 a3):=by
 intro a0 a1 a2 a3 k
 unfold impl_AddrText.f
 repeat' first
   | (with_reducible exact impl_AddrOk.mono _ _ _ _ _)
   | (with_reducible exact LeO.refl _)
   | (with_reducible exact LeO.none _)
   | (with_reducible refine LeO.ite ?_ ?_)
   | (with_reducible refine LeO.bind ?_ (fun _=>?_))
   | exact impl_AddrOk.mono _ _ _ _ _
   | exact LeO.none _
   | refine LeO.ite ?_ ?_
   | refine LeO.bind ?_ (fun _=>?_)
theorem impl_AddrText.calls (k:Nat) (a0_0:ByteArray) (A0_1:Option Addr) (c0_1:Nat) (l0_1:List ByteArray) (a0_2:Bool) (a0_3:ByteArray) (r:ByteArray) (w:World) (hr0_1:Kd.C Kd.string w A0_1 l0_1.length l0_1) (hc0_1:l0_1.length ≤ c0_1) (h:impl_AddrText.f k a0_0 l0_1 a0_2 a0_3 = some r) :
  Calls Tryd.prog 14 #[.agg #[.string a0_0,.slice A0_1 l0_1.length c0_1,.bool a0_2,.string a0_3]] w fun e w'=>e = .returned (.string r) ∧ Below w.heap.size w w':=by
 have hu24:=Tryd.underlying24
 have HR0_1:=Aside0.mk hr0_1
 have HC0_1:=Aside0.mk hc0_1
 clear hr0_1 hc0_1
 have HB:=Aside0.mk (Below.refl w.heap.size w)
 have H:((impl_AddrOk.f k a0_0 l0_1 a0_2 a0_3).bind fun t426=>(if t426 = true then ((impl_writeAddr.f a0_0 l0_1 a0_2 a0_3).bind fun t427=>(some t427)) else (some (⟨#[]⟩:ByteArray)))) = some r:=h
 clear h
 replace H:=Option.bind_eq_some_iff.mp H
 obtain ⟨t426,A20,H⟩:=H
 replace H:(if t426 = true then ((impl_writeAddr.f a0_0 l0_1 a0_2 a0_3).bind fun t427=>(some t427)) else (some (⟨#[]⟩:ByteArray))) = some r:=H
 have A2:=Aside0.mk A20
 clear A20
 by_cases c3:t426 = true
 ·subst c3
  have H1:((impl_writeAddr.f a0_0 l0_1 a0_2 a0_3).bind fun t427=>(some t427)) = some r:=by rw [if_pos rfl] at H;exact H
  clear H
  have H:=H1
  clear H1
  replace H:=Option.bind_eq_some_iff.mp H
  obtain ⟨t427,A40,H⟩:=H
  replace H:(some t427) = some r:=H
  have A4:=Aside0.mk A40
  clear A40
  obtain rfl:=Option.some.inj H
  go_enter Tryd.func14,Tryd.ntmps14
  go_wp2_with (first|((with_reducible refine gate_dst (N:=1) rfl ?_);refine box_event ?hg (N:=1) ?hd (cs:=#[.string a0_0,.slice A0_1 l0_1.length c0_1,.bool a0_2,.string a0_3]) (t:=24) ?hr ?_;(case hd=>rfl);(case hg=>rfl);(case hr=>first|(go_simp;done)|(go_simp;rfl));intro gb425 hg w5 hbox hb;have n0_:=Aside0.mk (below_step (by repeat (first|(with_reducible first|exact HB.out|apply below_alloc|apply pw_below_drewN|apply below_drew1)|exact HB.out)) hb);have n1_:=Aside0.mk (hbox);have n2_:=Aside0.mk ((by rw [hg];exact (below_size (by repeat (first|(with_reducible first|exact HB.out|apply below_alloc|apply pw_below_drewN|apply below_drew1)|exact HB.out))):w.heap.size ≤ gb425));have n3_:=n2_;clear HB;have HB:=n0_;have BK425:=n1_;have GW425:=n2_;have GE425:=n3_;clear n0_ n1_ n2_ n3_;clear hb hbox hg;have hcz6_0:w5.cell? ⟨gb425,0,none⟩ = some (.string a0_0):=(blk_cell BK425.out 0).trans rfl;have hcz6_1:w5.cell? ⟨gb425,1,none⟩ = some (.slice A0_1 l0_1.length c0_1):=(blk_cell BK425.out 1).trans rfl;have hcz6_2:w5.cell? ⟨gb425,2,none⟩ = some (.bool a0_2):=(blk_cell BK425.out 2).trans rfl;have hcz6_3:w5.cell? ⟨gb425,3,none⟩ = some (.string a0_3):=(blk_cell BK425.out 3).trans rfl;have hfz6_0:=blk_frozen BK425.out 0;have hfz6_1:=blk_frozen BK425.out 1;have hfz6_2:=blk_frozen BK425.out 2;have hfz6_3:=blk_frozen BK425.out 3)|((with_reducible refine gate_callee (f:=18) rfl ?_);refine goesL_ (some 4) rfl rfl Tryd.func18 (by kernel_rfl) rfl #[.agg #[.string a0_0,.slice A0_1 l0_1.length c0_1,.bool a0_2,.string a0_3]] rfl (by (try simp only [List.map_toArray,List.map_cons,List.map_nil]);first|done|rfl|(simp only [List.length_drop,List.length_take];rfl)) ?_;(with_reducible refine (impl_AddrOk.calls k a0_0 _ _ l0_1 a0_2 a0_3 true _ ?side1 ?side2 A2.out).mono ?_);(case side1=>repeat (first|exact (Kd.C_below HR0_1.out HB.out)|(with_reducible refine Kd.C_alloc ?_ _)|(with_reducible refine Kd.C_drewN ?_ _)|(with_reducible refine Kd.C_drew ?_)));(case side2=>exact HC0_1.out);rintro e w7 ⟨rfl,hb⟩;refine ⟨_,rfl,?_⟩;have n0_:=Aside0.mk (blk_below (g:=gb425) (o:=.cells #[.string a0_0,.slice A0_1 l0_1.length c0_1,.bool a0_2,.string a0_3] 24 (0,0)) (by (with_reducible repeat (first|refine blk_drewN ?_ _|refine blk_drew ?_|refine blk_alloc ?_ _));exact BK425.out) hb);have n1_:=Aside0.mk (below_step (by repeat (first|(with_reducible first|exact HB.out|apply below_alloc|apply pw_below_drewN|apply below_drew1|refine below_set ?_ GE425.out)|exact HB.out)) hb);clear BK425;clear HB;have BK425:=n0_;have HB:=n1_;clear n0_ n1_;(try clear hb);(try clear hb2);(try clear hk);(try clear hi);have hcz8_0:w7.cell? ⟨gb425,0,none⟩ = some (.string a0_0):=(blk_cell BK425.out 0).trans rfl;have hcz8_1:w7.cell? ⟨gb425,1,none⟩ = some (.slice A0_1 l0_1.length c0_1):=(blk_cell BK425.out 1).trans rfl;have hcz8_2:w7.cell? ⟨gb425,2,none⟩ = some (.bool a0_2):=(blk_cell BK425.out 2).trans rfl;have hcz8_3:w7.cell? ⟨gb425,3,none⟩ = some (.string a0_3):=(blk_cell BK425.out 3).trans rfl;have hfz8_0:=blk_frozen BK425.out 0;have hfz8_1:=blk_frozen BK425.out 1;have hfz8_2:=blk_frozen BK425.out 2;have hfz8_3:=blk_frozen BK425.out 3)|((with_reducible refine gate_callee (f:=28) rfl ?_);refine goesL_ (some 7) rfl rfl Tryd.func28 (by kernel_rfl) rfl #[.agg #[.string a0_0,.slice A0_1 l0_1.length c0_1,.bool a0_2,.string a0_3]] rfl (by (try simp only [List.map_toArray,List.map_cons,List.map_nil]);first|done|rfl|(simp only [List.length_drop,List.length_take];rfl)) ?_;(with_reducible refine (impl_writeAddr.calls a0_0 _ _ l0_1 a0_2 a0_3 t427 _ ?side1 ?side2 A4.out).mono ?_);(case side1=>repeat (first|exact (Kd.C_below HR0_1.out HB.out)|(with_reducible refine Kd.C_alloc ?_ _)|(with_reducible refine Kd.C_drewN ?_ _)|(with_reducible refine Kd.C_drew ?_)));(case side2=>exact HC0_1.out);rintro e w9 ⟨rfl,hb⟩;refine ⟨_,rfl,?_⟩;have n0_:=Aside0.mk (blk_below (g:=gb425) (o:=.cells #[.string a0_0,.slice A0_1 l0_1.length c0_1,.bool a0_2,.string a0_3] 24 (0,0)) (by (with_reducible repeat (first|refine blk_drewN ?_ _|refine blk_drew ?_|refine blk_alloc ?_ _));exact BK425.out) hb);have n1_:=Aside0.mk (below_step (by repeat (first|(with_reducible first|exact HB.out|apply below_alloc|apply pw_below_drewN|apply below_drew1|refine below_set ?_ GE425.out)|exact HB.out)) hb);clear BK425;clear HB;have BK425:=n0_;have HB:=n1_;clear n0_ n1_;(try clear hb);(try clear hb2);(try clear hk);(try clear hi)))
  go_ret
  exact ⟨by first|rfl|(simp <;> rfl)|(simp [*] <;> rfl),by repeat (first|(with_reducible first|exact HB.out|apply below_alloc|apply pw_below_drewN|apply below_drew1|refine below_set ?_ GE425.out)|exact HB.out)⟩
 ·replace c3:=Bool.eq_false_iff.mpr c3
  subst c3
  have H1:(some (⟨#[]⟩:ByteArray)) = some r:=by rw [if_neg (show ¬ (false = true) by decide)] at H;exact H
  clear H
  have H:=H1
  clear H1
  obtain rfl:=Option.some.inj H
  go_enter Tryd.func14,Tryd.ntmps14
  go_wp2_with (first|((with_reducible refine gate_dst (N:=1) rfl ?_);refine box_event ?hg (N:=1) ?hd (cs:=#[.string a0_0,.slice A0_1 l0_1.length c0_1,.bool a0_2,.string a0_3]) (t:=24) ?hr ?_;(case hd=>rfl);(case hg=>rfl);(case hr=>first|(go_simp;done)|(go_simp;rfl));intro gb425 hg w10 hbox hb;have n0_:=Aside0.mk (below_step (by repeat (first|(with_reducible first|exact HB.out|apply below_alloc|apply pw_below_drewN|apply below_drew1)|exact HB.out)) hb);have n1_:=Aside0.mk (hbox);have n2_:=Aside0.mk ((by rw [hg];exact (below_size (by repeat (first|(with_reducible first|exact HB.out|apply below_alloc|apply pw_below_drewN|apply below_drew1)|exact HB.out))):w.heap.size ≤ gb425));have n3_:=n2_;clear HB;have HB:=n0_;have BK425:=n1_;have GW425:=n2_;have GE425:=n3_;clear n0_ n1_ n2_ n3_;clear hb hbox hg;have hcz11_0:w10.cell? ⟨gb425,0,none⟩ = some (.string a0_0):=(blk_cell BK425.out 0).trans rfl;have hcz11_1:w10.cell? ⟨gb425,1,none⟩ = some (.slice A0_1 l0_1.length c0_1):=(blk_cell BK425.out 1).trans rfl;have hcz11_2:w10.cell? ⟨gb425,2,none⟩ = some (.bool a0_2):=(blk_cell BK425.out 2).trans rfl;have hcz11_3:w10.cell? ⟨gb425,3,none⟩ = some (.string a0_3):=(blk_cell BK425.out 3).trans rfl;have hfz11_0:=blk_frozen BK425.out 0;have hfz11_1:=blk_frozen BK425.out 1;have hfz11_2:=blk_frozen BK425.out 2;have hfz11_3:=blk_frozen BK425.out 3)|((with_reducible refine gate_callee (f:=18) rfl ?_);refine goesL_ (some 4) rfl rfl Tryd.func18 (by kernel_rfl) rfl #[.agg #[.string a0_0,.slice A0_1 l0_1.length c0_1,.bool a0_2,.string a0_3]] rfl (by (try simp only [List.map_toArray,List.map_cons,List.map_nil]);first|done|rfl|(simp only [List.length_drop,List.length_take];rfl)) ?_;(with_reducible refine (impl_AddrOk.calls k a0_0 _ _ l0_1 a0_2 a0_3 false _ ?side1 ?side2 A2.out).mono ?_);(case side1=>repeat (first|exact (Kd.C_below HR0_1.out HB.out)|(with_reducible refine Kd.C_alloc ?_ _)|(with_reducible refine Kd.C_drewN ?_ _)|(with_reducible refine Kd.C_drew ?_)));(case side2=>exact HC0_1.out);rintro e w12 ⟨rfl,hb⟩;refine ⟨_,rfl,?_⟩;have n0_:=Aside0.mk (blk_below (g:=gb425) (o:=.cells #[.string a0_0,.slice A0_1 l0_1.length c0_1,.bool a0_2,.string a0_3] 24 (0,0)) (by (with_reducible repeat (first|refine blk_drewN ?_ _|refine blk_drew ?_|refine blk_alloc ?_ _));exact BK425.out) hb);have n1_:=Aside0.mk (below_step (by repeat (first|(with_reducible first|exact HB.out|apply below_alloc|apply pw_below_drewN|apply below_drew1|refine below_set ?_ GE425.out)|exact HB.out)) hb);clear BK425;clear HB;have BK425:=n0_;have HB:=n1_;clear n0_ n1_;(try clear hb);(try clear hb2);(try clear hk);(try clear hi)))
  go_ret
  exact ⟨by first|rfl|(simp <;> rfl)|(simp [*] <;> rfl),by repeat (first|(with_reducible first|exact HB.out|apply below_alloc|apply pw_below_drewN|apply below_drew1|refine below_set ?_ GE425.out)|exact HB.out)⟩

end Go.Proofs.YtochmlkladpfgaaDoor.P
