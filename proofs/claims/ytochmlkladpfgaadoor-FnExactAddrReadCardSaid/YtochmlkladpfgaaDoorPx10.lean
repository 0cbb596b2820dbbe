-- Written by a program of this session (patch_print.py over the kit's print; given texts in wip/given).
import Derived.Test.YtochmlkladpfgaaDoorPx0
import Derived.Test.YtochmlkladpfgaaDoorPx8
import Derived.Test.YtochmlkladpfgaaDoorPx9
namespace Go.Proofs.YtochmlkladpfgaaDoor.P
open Go.RowKit Go.Proofs.YtochmlkladpfgaaDoorW.PrintWords Go.Proofs.YtochmlkladpfgaaDoorW.PrintLast Go.Proofs.YtochmlkladpfgaaDoorW.PrintMore
attribute [local go_sem] max2_int min2_int max_two min_two max_three min_three max_four min_four   -- for this text's walks alone
set_option linter.unusedVariables false
set_option linter.unusedSimpArgs false
set_option maxHeartbeats 8000000
set_option maxRecDepth 100000

/-! ### spec_AddrOk: function 29 -/
mutual
def spec_AddrOk.j0:Nat → Bool → ByteArray → List ByteArray → Bool → ByteArray → Option (Bool)
 | 0,_,_,_,_,_=>none
 | k + 1,x29,x248000,x248001,x248002,x248003=>if x29 = true then (some false) else (spec_AddrOk.l0 k 0 x248000 x248001 x248002 x248003)
def spec_AddrOk.l0:Nat → Int → ByteArray → List ByteArray → Bool → ByteArray → Option (Bool)
 | 0,_,_,_,_,_=>none
 | k + 1,x3,x248000,x248001,x248002,x248003=>if x3 < (x248001.length:Int) then (if 0 ≤ x3 then ((spec_l1Norm.f k (rdOf ByteArray.empty x248001 x3)).bind fun t251=>(if t251 = true then (if (rdOf ByteArray.empty x248001 x3).toList = ([]:List UInt8) then (some false) else (if (rdOf ByteArray.empty x248001 x3).toList = ([46]:List UInt8) then (some false) else (if (rdOf ByteArray.empty x248001 x3).toList = ([46,46]:List UInt8) then (some false) else (spec_AddrOk.l0 k (wrap64 (x3 + 1)) x248000 x248001 x248002 x248003)))) else (some false))) else (none)) else ((spec_l1Text.f k x248000 x248001 x248002 x248003).bind fun t255=>(some (decide ((t255.size:Int) ≤ 60))))
end
def spec_AddrOk.f (k:Nat) (a0_0:ByteArray) (l0_1:List ByteArray) (a0_2:Bool) (a0_3:ByteArray):Option (Bool):=(spec_l1House.f k a0_0).bind fun t248=>(if t248 = true then (if (l0_1.length:Int) > 5 then (spec_AddrOk.j0 k true a0_0 l0_1 a0_2 a0_3) else ((spec_l1Norm.f k a0_3).bind fun t249=>(if t249 = true then (if a0_2 = true then (spec_AddrOk.j0 k false a0_0 l0_1 a0_2 a0_3) else (spec_AddrOk.j0 k (a0_3.toList != ([]:List UInt8)) a0_0 l0_1 a0_2 a0_3)) else (spec_AddrOk.j0 k true a0_0 l0_1 a0_2 a0_3)))) else (spec_AddrOk.j0 k true a0_0 l0_1 a0_2 a0_3))
theorem spec_AddrOk.mono_l:∀ k,(∀ y0 y1 y2 y3 y4,LeO (spec_AddrOk.j0 k y0 y1 y2 y3 y4) (spec_AddrOk.j0 (k + 1) y0 y1 y2 y3 y4)) ∧ (∀ y0 y1 y2 y3 y4,LeO (spec_AddrOk.l0 k y0 y1 y2 y3 y4) (spec_AddrOk.l0 (k + 1) y0 y1 y2 y3 y4))
 | 0=>⟨fun _ _ _ _ _ r h=>by simp [spec_AddrOk.j0] at h,fun _ _ _ _ _ r h=>by simp [spec_AddrOk.l0] at h⟩
 | k + 1=>by
  obtain ⟨ih0,ih1⟩:=spec_AddrOk.mono_l k
  refine ⟨?_,?_⟩
  ·intro y0 y1 y2 y3 y4
   unfold spec_AddrOk.j0
   repeat' first
   | (with_reducible exact ih0 _ _ _ _ _)
   | (with_reducible exact ih1 _ _ _ _ _)
   | (with_reducible exact spec_l1House.mono _ _)
   | (with_reducible exact spec_l1Norm.mono _ _)
   | (with_reducible exact spec_l1Text.mono _ _ _ _ _)
   | (with_reducible exact LeO.refl _)
   | (with_reducible exact LeO.none _)
   | (with_reducible refine LeO.ite ?_ ?_)
   | (with_reducible refine LeO.bind ?_ (fun _=>?_))
   | exact ih0 _ _ _ _ _
   | exact ih1 _ _ _ _ _
   | exact spec_l1House.mono _ _
   | exact spec_l1Norm.mono _ _
   | exact spec_l1Text.mono _ _ _ _ _
   | exact LeO.none _
   | refine LeO.ite ?_ ?_
   | refine LeO.bind ?_ (fun _=>?_)
  ·intro y0 y1 y2 y3 y4
   unfold spec_AddrOk.l0
   repeat' first
   | (with_reducible exact ih0 _ _ _ _ _)
   | (with_reducible exact ih1 _ _ _ _ _)
   | (with_reducible exact spec_l1House.mono _ _)
   | (with_reducible exact spec_l1Norm.mono _ _)
   | (with_reducible exact spec_l1Text.mono _ _ _ _ _)
   | (with_reducible exact LeO.refl _)
   | (with_reducible exact LeO.none _)
   | (with_reducible refine LeO.ite ?_ ?_)
   | (with_reducible refine LeO.bind ?_ (fun _=>?_))
   | exact ih0 _ _ _ _ _
   | exact ih1 _ _ _ _ _
   | exact spec_l1House.mono _ _
   | exact spec_l1Norm.mono _ _
   | exact spec_l1Text.mono _ _ _ _ _
   | exact LeO.none _
   | refine LeO.ite ?_ ?_
   | refine LeO.bind ?_ (fun _=>?_)
theorem spec_AddrOk.mono:∀ a0 a1 a2 a3 k,LeO (spec_AddrOk.f k a0 a1 a2 a3) (spec_AddrOk.f (k + 1) a0 a1 a2 a3):=by
 intro a0 a1 a2 a3 k
 obtain ⟨ih0,ih1⟩:=spec_AddrOk.mono_l k
 unfold spec_AddrOk.f
 repeat' first
   | (with_reducible exact ih0 _ _ _ _ _)
   | (with_reducible exact ih1 _ _ _ _ _)
   | (with_reducible exact spec_l1House.mono _ _)
   | (with_reducible exact spec_l1Norm.mono _ _)
   | (with_reducible exact spec_l1Text.mono _ _ _ _ _)
   | (with_reducible exact LeO.refl _)
   | (with_reducible exact LeO.none _)
   | (with_reducible refine LeO.ite ?_ ?_)
   | (with_reducible refine LeO.bind ?_ (fun _=>?_))
   | exact ih0 _ _ _ _ _
   | exact ih1 _ _ _ _ _
   | exact spec_l1House.mono _ _
   | exact spec_l1Norm.mono _ _
   | exact spec_l1Text.mono _ _ _ _ _
   | exact LeO.none _
   | refine LeO.ite ?_ ?_
   | refine LeO.bind ?_ (fun _=>?_)
theorem spec_AddrOk.calls (k:Nat) (a0_0:ByteArray) (A0_1:Option Addr) (c0_1:Nat) (l0_1:List ByteArray) (a0_2:Bool) (a0_3:ByteArray) (r:Bool) (w:World) (hr0_1:Kd.C Kd.string w A0_1 l0_1.length l0_1) (hc0_1:l0_1.length ≤ c0_1) (h:spec_AddrOk.f k a0_0 l0_1 a0_2 a0_3 = some r) :
  Calls Tryd.prog 29 #[.agg #[.string a0_0,.slice A0_1 l0_1.length c0_1,.bool a0_2,.string a0_3]] w fun e w'=>e = .returned (.bool r) ∧ Below w.heap.size w w':=by
 have hu24:=Tryd.underlying24
 have HR0_1:=Aside0.mk hr0_1
 have HC0_1:=Aside0.mk hc0_1
 clear hr0_1 hc0_1
 have HB:=Aside0.mk (Below.refl w.heap.size w)
 have H:((spec_l1House.f k a0_0).bind fun t248=>(if t248 = true then (if (l0_1.length:Int) > 5 then (spec_AddrOk.j0 k true a0_0 l0_1 a0_2 a0_3) else ((spec_l1Norm.f k a0_3).bind fun t249=>(if t249 = true then (if a0_2 = true then (spec_AddrOk.j0 k false a0_0 l0_1 a0_2 a0_3) else (spec_AddrOk.j0 k (a0_3.toList != ([]:List UInt8)) a0_0 l0_1 a0_2 a0_3)) else (spec_AddrOk.j0 k true a0_0 l0_1 a0_2 a0_3)))) else (spec_AddrOk.j0 k true a0_0 l0_1 a0_2 a0_3))) = some r:=h
 clear h
 have HC2:=Aside0.mk H
 clear H
 go_enter Tryd.func29,Tryd.ntmps29
 go_upto_region 1 with (first|((with_reducible refine gate_dst (N:=1) rfl ?_);(try (refine gate_guard (by rfl) ?_;dsimp only));refine box_event ?hg (N:=1) ?hd (cs:=#[.string a0_0,.slice A0_1 l0_1.length c0_1,.bool a0_2,.string a0_3]) (t:=24) ?hr ?_;(case hd=>rfl);(case hg=>rfl);(case hr=>first|(go_simp;done)|(go_simp;rfl));intro gb247 hg w3 hbox hb;have n0_:=Aside0.mk (below_step (by repeat (first|(with_reducible first|exact HB.out|apply below_alloc|apply pw_below_drewN|apply below_drew1)|exact HB.out)) hb);have n1_:=Aside0.mk (hbox);have n2_:=Aside0.mk ((by rw [hg];exact (below_size (by repeat (first|(with_reducible first|exact HB.out|apply below_alloc|apply pw_below_drewN|apply below_drew1)|exact HB.out))):w.heap.size ≤ gb247));have n3_:=n2_;clear HB;have HB:=n0_;have BK247:=n1_;have GW247:=n2_;have GE247:=n3_;clear n0_ n1_ n2_ n3_;clear hb hbox hg))
 (try simp only [Act.put,List.setIfInBounds_toArray,List.set_cons_zero,List.set_cons_succ])
 go_cut [29] (fun v29 wc=>∃ (kq:Nat) (x29_1:Bool),v29 = .bool x29_1 ∧ Aside0 (spec_AddrOk.j0 kq x29_1 a0_0 l0_1 a0_2 a0_3 = some r) ∧ Aside0 (kq ≤ k) ∧ Aside0 (wc.heap[gb247]? = some (.cells #[.string a0_0,(.slice A0_1 l0_1.length c0_1),.bool a0_2,.string a0_3] 24 (0,0))) ∧ Aside0 (Below w.heap.size w wc))
 case first =>
  have H:=HC2.out
  clear HC2
  replace H:=Option.bind_eq_some_iff.mp H
  obtain ⟨t248,A40,H⟩:=H
  replace H:(if t248 = true then (if (l0_1.length:Int) > 5 then (spec_AddrOk.j0 k true a0_0 l0_1 a0_2 a0_3) else ((spec_l1Norm.f k a0_3).bind fun t249=>(if t249 = true then (if a0_2 = true then (spec_AddrOk.j0 k false a0_0 l0_1 a0_2 a0_3) else (spec_AddrOk.j0 k (a0_3.toList != ([]:List UInt8)) a0_0 l0_1 a0_2 a0_3)) else (spec_AddrOk.j0 k true a0_0 l0_1 a0_2 a0_3)))) else (spec_AddrOk.j0 k true a0_0 l0_1 a0_2 a0_3)) = some r:=H
  have A4:=Aside0.mk A40
  clear A40
  by_cases c5:t248 = true
  ·subst c5
   have H1:(if (l0_1.length:Int) > 5 then (spec_AddrOk.j0 k true a0_0 l0_1 a0_2 a0_3) else ((spec_l1Norm.f k a0_3).bind fun t249=>(if t249 = true then (if a0_2 = true then (spec_AddrOk.j0 k false a0_0 l0_1 a0_2 a0_3) else (spec_AddrOk.j0 k (a0_3.toList != ([]:List UInt8)) a0_0 l0_1 a0_2 a0_3)) else (spec_AddrOk.j0 k true a0_0 l0_1 a0_2 a0_3)))) = some r:=by rw [if_pos rfl] at H;exact H
   clear H
   have H:=H1
   clear H1
   by_cases c6:(l0_1.length:Int) > 5
   ·rw [if_pos c6] at H
    have c6b0:decide (5 < (l0_1.length:Int)) = true:=decide_eq_true c6
    have c6b1:decide (5 < l0_1.length) = true:=decide_eq_true (by omega)
    clear c6
    (first|rw [c6b0]|(simp only [i64_w,i32_w];rw [c6b0])|skip)
    have H':=Aside0.mk H
    clear H
    have hcz7_0:w3.cell? ⟨gb247,0,none⟩ = some (.string a0_0):=(blk_cell BK247.out 0).trans rfl
    have hcz7_1:w3.cell? ⟨gb247,1,none⟩ = some (.slice A0_1 l0_1.length c0_1):=(blk_cell BK247.out 1).trans rfl
    have hcz7_2:w3.cell? ⟨gb247,2,none⟩ = some (.bool a0_2):=(blk_cell BK247.out 2).trans rfl
    have hcz7_3:w3.cell? ⟨gb247,3,none⟩ = some (.string a0_3):=(blk_cell BK247.out 3).trans rfl
    have hfz7_0:=blk_frozen BK247.out 0
    have hfz7_1:=blk_frozen BK247.out 1
    have hfz7_2:=blk_frozen BK247.out 2
    have hfz7_3:=blk_frozen BK247.out 3
    go_wp2_with (first|((with_reducible refine gate_callee (f:=48) rfl ?_);refine goesL_ (some 6) rfl rfl Tryd.func48 (by kernel_rfl) rfl #[.string a0_0] rfl (by (try simp only [List.map_toArray,List.map_cons,List.map_nil]);first|done|rfl|(simp only [List.length_drop,List.length_take];rfl)) ?_;(with_reducible refine (spec_l1House.calls k a0_0 true _ A4.out).mono ?_);rintro e w' ⟨rfl,⟨nd,rfl⟩⟩;refine ⟨_,rfl,?_⟩))
    go_meet
    case rel=>exact ⟨_,(true),(by first|rfl|(simp;done)|(simp only [i64_w,i32_w];done)|(simp only [i64_w,i32_w];rfl)|(simp [*];done)|(simp [emp_bne,emp_beq];done)),H',⟨by first|omega|exact Nat.le_refl _⟩,⟨by (with_reducible repeat (first|refine blk_drewN ?_ _|refine blk_drew ?_|refine blk_alloc ?_ _));exact BK247.out⟩,⟨by repeat (first|(with_reducible first|exact HB.out|apply below_alloc|apply pw_below_drewN|apply below_drew1|refine below_set ?_ GE247.out)|exact HB.out)⟩⟩
   ·rw [if_neg c6] at H
    have c6b0:decide (5 < (l0_1.length:Int)) = false:=decide_eq_false c6
    have c6b1:decide (5 < l0_1.length) = false:=decide_eq_false (by omega)
    clear c6
    (first|rw [c6b0]|(simp only [i64_w,i32_w];rw [c6b0])|skip)
    replace H:=Option.bind_eq_some_iff.mp H
    obtain ⟨t249,A80,H⟩:=H
    replace H:(if t249 = true then (if a0_2 = true then (spec_AddrOk.j0 k false a0_0 l0_1 a0_2 a0_3) else (spec_AddrOk.j0 k (a0_3.toList != ([]:List UInt8)) a0_0 l0_1 a0_2 a0_3)) else (spec_AddrOk.j0 k true a0_0 l0_1 a0_2 a0_3)) = some r:=H
    have A8:=Aside0.mk A80
    clear A80
    by_cases c9:t249 = true
    ·subst c9
     have H1:(if a0_2 = true then (spec_AddrOk.j0 k false a0_0 l0_1 a0_2 a0_3) else (spec_AddrOk.j0 k (a0_3.toList != ([]:List UInt8)) a0_0 l0_1 a0_2 a0_3)) = some r:=by rw [if_pos rfl] at H;exact H
     clear H
     have H:=H1
     clear H1
     by_cases c10:a0_2 = true
     ·subst c10
      have H1:(spec_AddrOk.j0 k false a0_0 l0_1 true a0_3) = some r:=by rw [if_pos rfl] at H;exact H
      clear H
      have H:=H1
      clear H1
      have H':=Aside0.mk H
      clear H
      have hcz11_0:w3.cell? ⟨gb247,0,none⟩ = some (.string a0_0):=(blk_cell BK247.out 0).trans rfl
      have hcz11_1:w3.cell? ⟨gb247,1,none⟩ = some (.slice A0_1 l0_1.length c0_1):=(blk_cell BK247.out 1).trans rfl
      have hcz11_2:w3.cell? ⟨gb247,2,none⟩ = some (.bool true):=(blk_cell BK247.out 2).trans rfl
      have hcz11_3:w3.cell? ⟨gb247,3,none⟩ = some (.string a0_3):=(blk_cell BK247.out 3).trans rfl
      have hfz11_0:=blk_frozen BK247.out 0
      have hfz11_1:=blk_frozen BK247.out 1
      have hfz11_2:=blk_frozen BK247.out 2
      have hfz11_3:=blk_frozen BK247.out 3
      go_wp2_with (first|((with_reducible refine gate_callee (f:=48) rfl ?_);refine goesL_ (some 6) rfl rfl Tryd.func48 (by kernel_rfl) rfl #[.string a0_0] rfl (by (try simp only [List.map_toArray,List.map_cons,List.map_nil]);first|done|rfl|(simp only [List.length_drop,List.length_take];rfl)) ?_;(with_reducible refine (spec_l1House.calls k a0_0 true _ A4.out).mono ?_);rintro e w' ⟨rfl,⟨nd,rfl⟩⟩;refine ⟨_,rfl,?_⟩)|(go_at_call 49;(with_reducible refine (spec_l1Norm.calls k a0_3 true _ A8.out).mono ?_);rintro e w12 ⟨rfl,hb⟩;have n0_:=Aside0.mk (blk_below (g:=gb247) (o:=.cells #[.string a0_0,.slice A0_1 l0_1.length c0_1,.bool true,.string a0_3] 24 (0,0)) (by (with_reducible repeat (first|refine blk_drewN ?_ _|refine blk_drew ?_|refine blk_alloc ?_ _));exact BK247.out) hb);have n1_:=Aside0.mk (below_step (by repeat (first|(with_reducible first|exact HB.out|apply below_alloc|apply pw_below_drewN|apply below_drew1|refine below_set ?_ GE247.out)|exact HB.out)) hb);clear BK247;clear HB;have BK247:=n0_;have HB:=n1_;clear n0_ n1_;(try clear hb);(try clear hb2);(try clear hk);(try clear hi);have hcz13_0:w12.cell? ⟨gb247,0,none⟩ = some (.string a0_0):=(blk_cell BK247.out 0).trans rfl;have hcz13_1:w12.cell? ⟨gb247,1,none⟩ = some (.slice A0_1 l0_1.length c0_1):=(blk_cell BK247.out 1).trans rfl;have hcz13_2:w12.cell? ⟨gb247,2,none⟩ = some (.bool true):=(blk_cell BK247.out 2).trans rfl;have hcz13_3:w12.cell? ⟨gb247,3,none⟩ = some (.string a0_3):=(blk_cell BK247.out 3).trans rfl;have hfz13_0:=blk_frozen BK247.out 0;have hfz13_1:=blk_frozen BK247.out 1;have hfz13_2:=blk_frozen BK247.out 2;have hfz13_3:=blk_frozen BK247.out 3))
      go_meet
      case rel=>exact ⟨_,(false),(by first|rfl|(simp;done)|(simp only [i64_w,i32_w];done)|(simp only [i64_w,i32_w];rfl)|(simp [*];done)|(simp [emp_bne,emp_beq];done)),H',⟨by first|omega|exact Nat.le_refl _⟩,⟨by (with_reducible repeat (first|refine blk_drewN ?_ _|refine blk_drew ?_|refine blk_alloc ?_ _));exact BK247.out⟩,⟨by repeat (first|(with_reducible first|exact HB.out|apply below_alloc|apply pw_below_drewN|apply below_drew1|refine below_set ?_ GE247.out)|exact HB.out)⟩⟩
     ·replace c10:=Bool.eq_false_iff.mpr c10
      subst c10
      have H1:(spec_AddrOk.j0 k (a0_3.toList != ([]:List UInt8)) a0_0 l0_1 false a0_3) = some r:=by rw [if_neg (show ¬ (false = true) by decide)] at H;exact H
      clear H
      have H:=H1
      clear H1
      have H':=Aside0.mk H
      clear H
      have hcz14_0:w3.cell? ⟨gb247,0,none⟩ = some (.string a0_0):=(blk_cell BK247.out 0).trans rfl
      have hcz14_1:w3.cell? ⟨gb247,1,none⟩ = some (.slice A0_1 l0_1.length c0_1):=(blk_cell BK247.out 1).trans rfl
      have hcz14_2:w3.cell? ⟨gb247,2,none⟩ = some (.bool false):=(blk_cell BK247.out 2).trans rfl
      have hcz14_3:w3.cell? ⟨gb247,3,none⟩ = some (.string a0_3):=(blk_cell BK247.out 3).trans rfl
      have hfz14_0:=blk_frozen BK247.out 0
      have hfz14_1:=blk_frozen BK247.out 1
      have hfz14_2:=blk_frozen BK247.out 2
      have hfz14_3:=blk_frozen BK247.out 3
      go_wp2_with (first|((with_reducible refine gate_callee (f:=48) rfl ?_);refine goesL_ (some 6) rfl rfl Tryd.func48 (by kernel_rfl) rfl #[.string a0_0] rfl (by (try simp only [List.map_toArray,List.map_cons,List.map_nil]);first|done|rfl|(simp only [List.length_drop,List.length_take];rfl)) ?_;(with_reducible refine (spec_l1House.calls k a0_0 true _ A4.out).mono ?_);rintro e w' ⟨rfl,⟨nd,rfl⟩⟩;refine ⟨_,rfl,?_⟩)|(go_at_call 49;(with_reducible refine (spec_l1Norm.calls k a0_3 true _ A8.out).mono ?_);rintro e w15 ⟨rfl,hb⟩;have n0_:=Aside0.mk (blk_below (g:=gb247) (o:=.cells #[.string a0_0,.slice A0_1 l0_1.length c0_1,.bool false,.string a0_3] 24 (0,0)) (by (with_reducible repeat (first|refine blk_drewN ?_ _|refine blk_drew ?_|refine blk_alloc ?_ _));exact BK247.out) hb);have n1_:=Aside0.mk (below_step (by repeat (first|(with_reducible first|exact HB.out|apply below_alloc|apply pw_below_drewN|apply below_drew1|refine below_set ?_ GE247.out)|exact HB.out)) hb);clear BK247;clear HB;have BK247:=n0_;have HB:=n1_;clear n0_ n1_;(try clear hb);(try clear hb2);(try clear hk);(try clear hi);have hcz16_0:w15.cell? ⟨gb247,0,none⟩ = some (.string a0_0):=(blk_cell BK247.out 0).trans rfl;have hcz16_1:w15.cell? ⟨gb247,1,none⟩ = some (.slice A0_1 l0_1.length c0_1):=(blk_cell BK247.out 1).trans rfl;have hcz16_2:w15.cell? ⟨gb247,2,none⟩ = some (.bool false):=(blk_cell BK247.out 2).trans rfl;have hcz16_3:w15.cell? ⟨gb247,3,none⟩ = some (.string a0_3):=(blk_cell BK247.out 3).trans rfl;have hfz16_0:=blk_frozen BK247.out 0;have hfz16_1:=blk_frozen BK247.out 1;have hfz16_2:=blk_frozen BK247.out 2;have hfz16_3:=blk_frozen BK247.out 3))
      go_meet
      case rel=>exact ⟨_,((a0_3.toList != ([]:List UInt8))),(by first|rfl|(simp;done)|(simp only [i64_w,i32_w];done)|(simp only [i64_w,i32_w];rfl)|(simp [*];done)|(simp [emp_bne,emp_beq];done)),H',⟨by first|omega|exact Nat.le_refl _⟩,⟨by (with_reducible repeat (first|refine blk_drewN ?_ _|refine blk_drew ?_|refine blk_alloc ?_ _));exact BK247.out⟩,⟨by repeat (first|(with_reducible first|exact HB.out|apply below_alloc|apply pw_below_drewN|apply below_drew1|refine below_set ?_ GE247.out)|exact HB.out)⟩⟩
    ·replace c9:=Bool.eq_false_iff.mpr c9
     subst c9
     have H1:(spec_AddrOk.j0 k true a0_0 l0_1 a0_2 a0_3) = some r:=by rw [if_neg (show ¬ (false = true) by decide)] at H;exact H
     clear H
     have H:=H1
     clear H1
     have H':=Aside0.mk H
     clear H
     have hcz17_0:w3.cell? ⟨gb247,0,none⟩ = some (.string a0_0):=(blk_cell BK247.out 0).trans rfl
     have hcz17_1:w3.cell? ⟨gb247,1,none⟩ = some (.slice A0_1 l0_1.length c0_1):=(blk_cell BK247.out 1).trans rfl
     have hcz17_2:w3.cell? ⟨gb247,2,none⟩ = some (.bool a0_2):=(blk_cell BK247.out 2).trans rfl
     have hcz17_3:w3.cell? ⟨gb247,3,none⟩ = some (.string a0_3):=(blk_cell BK247.out 3).trans rfl
     have hfz17_0:=blk_frozen BK247.out 0
     have hfz17_1:=blk_frozen BK247.out 1
     have hfz17_2:=blk_frozen BK247.out 2
     have hfz17_3:=blk_frozen BK247.out 3
     go_wp2_with (first|((with_reducible refine gate_callee (f:=48) rfl ?_);refine goesL_ (some 6) rfl rfl Tryd.func48 (by kernel_rfl) rfl #[.string a0_0] rfl (by (try simp only [List.map_toArray,List.map_cons,List.map_nil]);first|done|rfl|(simp only [List.length_drop,List.length_take];rfl)) ?_;(with_reducible refine (spec_l1House.calls k a0_0 true _ A4.out).mono ?_);rintro e w' ⟨rfl,⟨nd,rfl⟩⟩;refine ⟨_,rfl,?_⟩)|(go_at_call 49;(with_reducible refine (spec_l1Norm.calls k a0_3 false _ A8.out).mono ?_);rintro e w18 ⟨rfl,hb⟩;have n0_:=Aside0.mk (blk_below (g:=gb247) (o:=.cells #[.string a0_0,.slice A0_1 l0_1.length c0_1,.bool a0_2,.string a0_3] 24 (0,0)) (by (with_reducible repeat (first|refine blk_drewN ?_ _|refine blk_drew ?_|refine blk_alloc ?_ _));exact BK247.out) hb);have n1_:=Aside0.mk (below_step (by repeat (first|(with_reducible first|exact HB.out|apply below_alloc|apply pw_below_drewN|apply below_drew1|refine below_set ?_ GE247.out)|exact HB.out)) hb);clear BK247;clear HB;have BK247:=n0_;have HB:=n1_;clear n0_ n1_;(try clear hb);(try clear hb2);(try clear hk);(try clear hi)))
     go_meet
     case rel=>exact ⟨_,(true),(by first|rfl|(simp;done)|(simp only [i64_w,i32_w];done)|(simp only [i64_w,i32_w];rfl)|(simp [*];done)|(simp [emp_bne,emp_beq];done)),H',⟨by first|omega|exact Nat.le_refl _⟩,⟨by (with_reducible repeat (first|refine blk_drewN ?_ _|refine blk_drew ?_|refine blk_alloc ?_ _));exact BK247.out⟩,⟨by repeat (first|(with_reducible first|exact HB.out|apply below_alloc|apply pw_below_drewN|apply below_drew1|refine below_set ?_ GE247.out)|exact HB.out)⟩⟩
  ·replace c5:=Bool.eq_false_iff.mpr c5
   subst c5
   have H1:(spec_AddrOk.j0 k true a0_0 l0_1 a0_2 a0_3) = some r:=by rw [if_neg (show ¬ (false = true) by decide)] at H;exact H
   clear H
   have H:=H1
   clear H1
   have H':=Aside0.mk H
   clear H
   have hcz19_0:w3.cell? ⟨gb247,0,none⟩ = some (.string a0_0):=(blk_cell BK247.out 0).trans rfl
   have hcz19_1:w3.cell? ⟨gb247,1,none⟩ = some (.slice A0_1 l0_1.length c0_1):=(blk_cell BK247.out 1).trans rfl
   have hcz19_2:w3.cell? ⟨gb247,2,none⟩ = some (.bool a0_2):=(blk_cell BK247.out 2).trans rfl
   have hcz19_3:w3.cell? ⟨gb247,3,none⟩ = some (.string a0_3):=(blk_cell BK247.out 3).trans rfl
   have hfz19_0:=blk_frozen BK247.out 0
   have hfz19_1:=blk_frozen BK247.out 1
   have hfz19_2:=blk_frozen BK247.out 2
   have hfz19_3:=blk_frozen BK247.out 3
   go_wp2_with (first|((with_reducible refine gate_callee (f:=48) rfl ?_);refine goesL_ (some 6) rfl rfl Tryd.func48 (by kernel_rfl) rfl #[.string a0_0] rfl (by (try simp only [List.map_toArray,List.map_cons,List.map_nil]);first|done|rfl|(simp only [List.length_drop,List.length_take];rfl)) ?_;(with_reducible refine (spec_l1House.calls k a0_0 false _ A4.out).mono ?_);rintro e w' ⟨rfl,⟨nd,rfl⟩⟩;refine ⟨_,rfl,?_⟩))
   go_meet
   case rel=>exact ⟨_,(true),(by first|rfl|(simp;done)|(simp only [i64_w,i32_w];done)|(simp only [i64_w,i32_w];rfl)|(simp [*];done)|(simp [emp_bne,emp_beq];done)),H',⟨by first|omega|exact Nat.le_refl _⟩,⟨by (with_reducible repeat (first|refine blk_drewN ?_ _|refine blk_drew ?_|refine blk_alloc ?_ _));exact BK247.out⟩,⟨by repeat (first|(with_reducible first|exact HB.out|apply below_alloc|apply pw_below_drewN|apply below_drew1|refine below_set ?_ GE247.out)|exact HB.out)⟩⟩
 case rest =>
  clear HC2
  try clear c1
  try clear c2
  try clear p2
  try clear c4
  try clear c5
  try clear c6
  try clear c6b0
  try clear c6b1
  try clear c9
  try clear c10
  try clear hcz11_0
  try clear hcz11_1
  try clear hcz11_2
  try clear hcz11_3
  try clear hcz13_0
  try clear hcz13_1
  try clear hcz13_2
  try clear hcz13_3
  try clear hcz14_0
  try clear hcz14_1
  try clear hcz14_2
  try clear hcz14_3
  try clear hcz16_0
  try clear hcz16_1
  try clear hcz16_2
  try clear hcz16_3
  try clear hcz17_0
  try clear hcz17_1
  try clear hcz17_2
  try clear hcz17_3
  try clear hcz19_0
  try clear hcz19_1
  try clear hcz19_2
  try clear hcz19_3
  try clear hcz7_0
  try clear hcz7_1
  try clear hcz7_2
  try clear hcz7_3
  try clear hfz11_0
  try clear hfz11_1
  try clear hfz11_2
  try clear hfz11_3
  try clear hfz13_0
  try clear hfz13_1
  try clear hfz13_2
  try clear hfz13_3
  try clear hfz14_0
  try clear hfz14_1
  try clear hfz14_2
  try clear hfz14_3
  try clear hfz16_0
  try clear hfz16_1
  try clear hfz16_2
  try clear hfz16_3
  try clear hfz17_0
  try clear hfz17_1
  try clear hfz17_2
  try clear hfz17_3
  try clear hfz19_0
  try clear hfz19_1
  try clear hfz19_2
  try clear hfz19_3
  try clear hfz7_0
  try clear hfz7_1
  try clear hfz7_2
  try clear hfz7_3
  obtain ⟨kq,x29_1,rfl,HA,HJ1,BK247,HB⟩:=hcut
  cases kq with
  | zero=>exact absurd HA.out (by simp [spec_AddrOk.j0])
  | succ kj1 =>
   have H:=HA.out
   clear HA
   simp only [spec_AddrOk.j0] at H
   by_cases c20:x29_1 = true
   ·subst c20
    have H1:(some false) = some r:=by rw [if_pos rfl] at H;exact H
    clear H
    have H:=H1
    clear H1
    obtain rfl:=Option.some.inj H
    go_wp2
    go_ret
    exact ⟨by first|rfl|(simp <;> rfl)|(simp [*] <;> rfl),by repeat (first|(with_reducible first|exact HB.out|apply below_alloc|apply pw_below_drewN|apply below_drew1|refine below_set ?_ GE247.out)|exact HB.out)⟩
   ·replace c20:=Bool.eq_false_iff.mpr c20
    subst c20
    have H1:(spec_AddrOk.l0 kj1 0 a0_0 l0_1 a0_2 a0_3) = some r:=by rw [if_neg (show ¬ (false = true) by decide)] at H;exact H
    clear H
    have H:=H1
    clear H1
    have H':=Aside0.mk H
    clear H
    go_wp2
    go_loopg [3] kj1 (fun kq v3 w'=>∃ (x3_2:Int),v3 = .int .i64 x3_2 ∧ Aside0 (spec_AddrOk.l0 kq x3_2 a0_0 l0_1 a0_2 a0_3 = some r) ∧ Aside0 (kq ≤ kj1) ∧ Aside0 (w'.heap[gb247]? = some (.cells #[.string a0_0,(.slice A0_1 l0_1.length c0_1),.bool a0_2,.string a0_3] 24 (0,0))) ∧ Aside0 (Below w.heap.size w w'))
    case atStart=>exact ⟨(0),(by first|rfl|(simp;done)|(simp only [i64_w,i32_w];done)|(simp only [i64_w,i32_w];rfl)|(simp [*];done)|(simp [emp_bne,emp_beq];done)),H',⟨Nat.le_refl _⟩,⟨by (with_reducible repeat (first|refine blk_drewN ?_ _|refine blk_drew ?_|refine blk_alloc ?_ _));exact BK247.out⟩,⟨by repeat (first|(with_reducible first|exact HB.out|apply below_alloc|apply pw_below_drewN|apply below_drew1|refine below_set ?_ GE247.out)|exact HB.out)⟩⟩
    case round =>
     clear H'
     try clear c1
     try clear c2
     try clear p2
     try clear c4
     try clear c5
     try clear c6
     try clear c6b0
     try clear c6b1
     try clear c9
     try clear c10
     try clear c20
     try clear hcz11_0
     try clear hcz11_1
     try clear hcz11_2
     try clear hcz11_3
     try clear hcz13_0
     try clear hcz13_1
     try clear hcz13_2
     try clear hcz13_3
     try clear hcz14_0
     try clear hcz14_1
     try clear hcz14_2
     try clear hcz14_3
     try clear hcz16_0
     try clear hcz16_1
     try clear hcz16_2
     try clear hcz16_3
     try clear hcz17_0
     try clear hcz17_1
     try clear hcz17_2
     try clear hcz17_3
     try clear hcz19_0
     try clear hcz19_1
     try clear hcz19_2
     try clear hcz19_3
     try clear hcz7_0
     try clear hcz7_1
     try clear hcz7_2
     try clear hcz7_3
     try clear hfz11_0
     try clear hfz11_1
     try clear hfz11_2
     try clear hfz11_3
     try clear hfz13_0
     try clear hfz13_1
     try clear hfz13_2
     try clear hfz13_3
     try clear hfz14_0
     try clear hfz14_1
     try clear hfz14_2
     try clear hfz14_3
     try clear hfz16_0
     try clear hfz16_1
     try clear hfz16_2
     try clear hfz16_3
     try clear hfz17_0
     try clear hfz17_1
     try clear hfz17_2
     try clear hfz17_3
     try clear hfz19_0
     try clear hfz19_1
     try clear hfz19_2
     try clear hfz19_3
     try clear hfz7_0
     try clear hfz7_1
     try clear hfz7_2
     try clear hfz7_3
     try clear p2
     obtain ⟨x3_2,rfl,HA,HK2,BK247,HB⟩:=hrel
     cases gk with
     | zero=>exact absurd HA.out (by simp [spec_AddrOk.l0])
     | succ k2 =>
      have H:=HA.out
      clear HA
      simp only [spec_AddrOk.l0] at H
      by_cases c21:x3_2 < (l0_1.length:Int)
      ·rw [if_pos c21] at H
       have c21b0:decide (x3_2 < (l0_1.length:Int)) = true:=decide_eq_true c21
       clear c21
       by_cases c22:0 ≤ x3_2
       ·rw [if_pos c22] at H
        have c22b0:decide (0 ≤ x3_2) = true:=decide_eq_true c22
        clear c22
        replace H:=Option.bind_eq_some_iff.mp H
        obtain ⟨t251,A230,H⟩:=H
        replace H:(if t251 = true then (if (rdOf ByteArray.empty l0_1 x3_2).toList = ([]:List UInt8) then (some false) else (if (rdOf ByteArray.empty l0_1 x3_2).toList = ([46]:List UInt8) then (some false) else (if (rdOf ByteArray.empty l0_1 x3_2).toList = ([46,46]:List UInt8) then (some false) else (spec_AddrOk.l0 k2 (wrap64 (x3_2 + 1)) a0_0 l0_1 a0_2 a0_3)))) else (some false)) = some r:=H
        have A23:=Aside0.mk A230
        clear A230
        by_cases c24:t251 = true
        ·subst c24
         have H1:(if (rdOf ByteArray.empty l0_1 x3_2).toList = ([]:List UInt8) then (some false) else (if (rdOf ByteArray.empty l0_1 x3_2).toList = ([46]:List UInt8) then (some false) else (if (rdOf ByteArray.empty l0_1 x3_2).toList = ([46,46]:List UInt8) then (some false) else (spec_AddrOk.l0 k2 (wrap64 (x3_2 + 1)) a0_0 l0_1 a0_2 a0_3)))) = some r:=by rw [if_pos rfl] at H;exact H
         clear H
         have H:=H1
         clear H1
         by_cases c25:(rdOf ByteArray.empty l0_1 x3_2).toList = ([]:List UInt8)
         ·rw [if_pos c25] at H
          (try (have c25b0:(rdOf ByteArray.empty l0_1 x3_2).toList.isEmpty = true:=by simpa using c25))
          have c25b1:((rdOf ByteArray.empty l0_1 x3_2).toList == ([]:List UInt8)) = true:=beq_iff_eq.mpr c25
          have c25b2:((rdOf ByteArray.empty l0_1 x3_2).toList != ([]:List UInt8)) = false:=bne_eq_false_iff_eq.mpr c25
          clear c25
          obtain rfl:=Option.some.inj H
          have hcz26_0:wr.cell? ⟨gb247,0,none⟩ = some (.string a0_0):=(blk_cell BK247.out 0).trans rfl
          have hcz26_1:wr.cell? ⟨gb247,1,none⟩ = some (.slice A0_1 l0_1.length c0_1):=(blk_cell BK247.out 1).trans rfl
          have hcz26_2:wr.cell? ⟨gb247,2,none⟩ = some (.bool a0_2):=(blk_cell BK247.out 2).trans rfl
          have hcz26_3:wr.cell? ⟨gb247,3,none⟩ = some (.string a0_3):=(blk_cell BK247.out 3).trans rfl
          have hfz26_0:=blk_frozen BK247.out 0
          have hfz26_1:=blk_frozen BK247.out 1
          have hfz26_2:=blk_frozen BK247.out 2
          have hfz26_3:=blk_frozen BK247.out 3
          have p250:0 ≤ (x3_2:Int):=of_decide_eq_true (by first|(with_reducible assumption)|assumption)
          have q250:x3_2 < (l0_1.length:Int):=of_decide_eq_true (by first|(with_reducible assumption)|assumption)
          obtain ⟨ad250,e250,hx250_0⟩:=Kd.at_string HR0_1.out x3_2 p250 q250
          cases e250
          replace hx250_0:=(HB.out.cell (World.block_lt_of_cell? w _ hx250_0)).trans hx250_0
          replace p250:=eq_true p250
          replace q250:=eq_true q250
          go_wp2_with (first|((with_reducible refine gate_callee (f:=49) rfl ?_);refine goesL_ (some 42) rfl rfl Tryd.func49 (by kernel_rfl) rfl #[.string (rdOf ByteArray.empty l0_1 x3_2)] rfl (by (try simp only [List.map_toArray,List.map_cons,List.map_nil]);first|done|rfl|(simp only [List.length_drop,List.length_take];rfl)) ?_;(with_reducible refine (spec_l1Norm.calls k2 (rdOf ByteArray.empty l0_1 x3_2) true _ A23.out).mono ?_);rintro e w27 ⟨rfl,hb⟩;refine ⟨_,rfl,?_⟩;have n0_:=Aside0.mk (blk_below (g:=gb247) (o:=.cells #[.string a0_0,.slice (some ad250) l0_1.length c0_1,.bool a0_2,.string a0_3] 24 (0,0)) (by (with_reducible repeat (first|refine blk_drewN ?_ _|refine blk_drew ?_|refine blk_alloc ?_ _));exact BK247.out) hb);have n1_:=Aside0.mk (below_step (by repeat (first|(with_reducible first|exact HB.out|apply below_alloc|apply pw_below_drewN|apply below_drew1|refine below_set ?_ GE247.out)|exact HB.out)) hb);clear BK247;clear HB;have BK247:=n0_;have HB:=n1_;clear n0_ n1_;(try clear hb);(try clear hb2);(try clear hk);(try clear hi);have hcz28_0:w27.cell? ⟨gb247,0,none⟩ = some (.string a0_0):=(blk_cell BK247.out 0).trans rfl;have hcz28_1:w27.cell? ⟨gb247,1,none⟩ = some (.slice (some ad250) l0_1.length c0_1):=(blk_cell BK247.out 1).trans rfl;have hcz28_2:w27.cell? ⟨gb247,2,none⟩ = some (.bool a0_2):=(blk_cell BK247.out 2).trans rfl;have hcz28_3:w27.cell? ⟨gb247,3,none⟩ = some (.string a0_3):=(blk_cell BK247.out 3).trans rfl;have hfz28_0:=blk_frozen BK247.out 0;have hfz28_1:=blk_frozen BK247.out 1;have hfz28_2:=blk_frozen BK247.out 2;have hfz28_3:=blk_frozen BK247.out 3;have p252:0 ≤ (x3_2:Int):=of_decide_eq_true (by first|(with_reducible assumption)|assumption);have q252:x3_2 < (l0_1.length:Int):=of_decide_eq_true (by first|(with_reducible assumption)|assumption);obtain ⟨ad252,e252,hx252_0⟩:=Kd.at_string HR0_1.out x3_2 p252 q252;obtain rfl:ad250 = ad252:=(by injection e252);replace hx252_0:=(HB.out.cell (World.block_lt_of_cell? w _ hx252_0)).trans hx252_0;replace p252:=eq_true p252;replace q252:=eq_true q252))
          go_ret
          exact ⟨by first|rfl|(simp <;> rfl)|(simp [*] <;> rfl),by repeat (first|(with_reducible first|exact HB.out|apply below_alloc|apply pw_below_drewN|apply below_drew1|refine below_set ?_ GE247.out)|exact HB.out)⟩
         ·rw [if_neg c25] at H
          (try (have c25b0:(rdOf ByteArray.empty l0_1 x3_2).toList.isEmpty = false:=by simpa using c25))
          have c25b1:((rdOf ByteArray.empty l0_1 x3_2).toList == ([]:List UInt8)) = false:=beq_eq_false_iff_ne.mpr c25
          have c25b2:((rdOf ByteArray.empty l0_1 x3_2).toList != ([]:List UInt8)) = true:=bne_iff_ne.mpr c25
          by_cases c29:(rdOf ByteArray.empty l0_1 x3_2).toList = ([46]:List UInt8)
          ·rw [if_pos c29] at H
           have c29b0:((rdOf ByteArray.empty l0_1 x3_2).toList == ([46]:List UInt8)) = true:=beq_iff_eq.mpr c29
           have c29b1:((rdOf ByteArray.empty l0_1 x3_2).toList != ([46]:List UInt8)) = false:=bne_eq_false_iff_eq.mpr c29
           clear c29
           obtain rfl:=Option.some.inj H
           have hcz30_0:wr.cell? ⟨gb247,0,none⟩ = some (.string a0_0):=(blk_cell BK247.out 0).trans rfl
           have hcz30_1:wr.cell? ⟨gb247,1,none⟩ = some (.slice A0_1 l0_1.length c0_1):=(blk_cell BK247.out 1).trans rfl
           have hcz30_2:wr.cell? ⟨gb247,2,none⟩ = some (.bool a0_2):=(blk_cell BK247.out 2).trans rfl
           have hcz30_3:wr.cell? ⟨gb247,3,none⟩ = some (.string a0_3):=(blk_cell BK247.out 3).trans rfl
           have hfz30_0:=blk_frozen BK247.out 0
           have hfz30_1:=blk_frozen BK247.out 1
           have hfz30_2:=blk_frozen BK247.out 2
           have hfz30_3:=blk_frozen BK247.out 3
           have p250:0 ≤ (x3_2:Int):=of_decide_eq_true (by first|(with_reducible assumption)|assumption)
           have q250:x3_2 < (l0_1.length:Int):=of_decide_eq_true (by first|(with_reducible assumption)|assumption)
           obtain ⟨ad250,e250,hx250_0⟩:=Kd.at_string HR0_1.out x3_2 p250 q250
           cases e250
           replace hx250_0:=(HB.out.cell (World.block_lt_of_cell? w _ hx250_0)).trans hx250_0
           replace p250:=eq_true p250
           replace q250:=eq_true q250
           go_wp2_with (first|((with_reducible refine gate_callee (f:=49) rfl ?_);refine goesL_ (some 42) rfl rfl Tryd.func49 (by kernel_rfl) rfl #[.string (rdOf ByteArray.empty l0_1 x3_2)] rfl (by (try simp only [List.map_toArray,List.map_cons,List.map_nil]);first|done|rfl|(simp only [List.length_drop,List.length_take];rfl)) ?_;(with_reducible refine (spec_l1Norm.calls k2 (rdOf ByteArray.empty l0_1 x3_2) true _ A23.out).mono ?_);rintro e w31 ⟨rfl,hb⟩;refine ⟨_,rfl,?_⟩;have n0_:=Aside0.mk (blk_below (g:=gb247) (o:=.cells #[.string a0_0,.slice (some ad250) l0_1.length c0_1,.bool a0_2,.string a0_3] 24 (0,0)) (by (with_reducible repeat (first|refine blk_drewN ?_ _|refine blk_drew ?_|refine blk_alloc ?_ _));exact BK247.out) hb);have n1_:=Aside0.mk (below_step (by repeat (first|(with_reducible first|exact HB.out|apply below_alloc|apply pw_below_drewN|apply below_drew1|refine below_set ?_ GE247.out)|exact HB.out)) hb);clear BK247;clear HB;have BK247:=n0_;have HB:=n1_;clear n0_ n1_;(try clear hb);(try clear hb2);(try clear hk);(try clear hi);have hcz32_0:w31.cell? ⟨gb247,0,none⟩ = some (.string a0_0):=(blk_cell BK247.out 0).trans rfl;have hcz32_1:w31.cell? ⟨gb247,1,none⟩ = some (.slice (some ad250) l0_1.length c0_1):=(blk_cell BK247.out 1).trans rfl;have hcz32_2:w31.cell? ⟨gb247,2,none⟩ = some (.bool a0_2):=(blk_cell BK247.out 2).trans rfl;have hcz32_3:w31.cell? ⟨gb247,3,none⟩ = some (.string a0_3):=(blk_cell BK247.out 3).trans rfl;have hfz32_0:=blk_frozen BK247.out 0;have hfz32_1:=blk_frozen BK247.out 1;have hfz32_2:=blk_frozen BK247.out 2;have hfz32_3:=blk_frozen BK247.out 3;have p252:0 ≤ (x3_2:Int):=of_decide_eq_true (by first|(with_reducible assumption)|assumption);have q252:x3_2 < (l0_1.length:Int):=of_decide_eq_true (by first|(with_reducible assumption)|assumption);obtain ⟨ad252,e252,hx252_0⟩:=Kd.at_string HR0_1.out x3_2 p252 q252;obtain rfl:ad250 = ad252:=(by injection e252);replace hx252_0:=(HB.out.cell (World.block_lt_of_cell? w _ hx252_0)).trans hx252_0;replace p252:=eq_true p252;replace q252:=eq_true q252;have p253:0 ≤ (x3_2:Int):=of_decide_eq_true (by first|(with_reducible assumption)|assumption);have q253:x3_2 < (l0_1.length:Int):=of_decide_eq_true (by first|(with_reducible assumption)|assumption);obtain ⟨ad253,e253,hx253_0⟩:=Kd.at_string HR0_1.out x3_2 p253 q253;obtain rfl:ad250 = ad253:=(by injection e253);replace hx253_0:=(HB.out.cell (World.block_lt_of_cell? w _ hx253_0)).trans hx253_0;replace p253:=eq_true p253;replace q253:=eq_true q253))
           go_ret
           exact ⟨by first|rfl|(simp <;> rfl)|(simp [*] <;> rfl),by repeat (first|(with_reducible first|exact HB.out|apply below_alloc|apply pw_below_drewN|apply below_drew1|refine below_set ?_ GE247.out)|exact HB.out)⟩
          ·rw [if_neg c29] at H
           have c29b0:((rdOf ByteArray.empty l0_1 x3_2).toList == ([46]:List UInt8)) = false:=beq_eq_false_iff_ne.mpr c29
           have c29b1:((rdOf ByteArray.empty l0_1 x3_2).toList != ([46]:List UInt8)) = true:=bne_iff_ne.mpr c29
           by_cases c33:(rdOf ByteArray.empty l0_1 x3_2).toList = ([46,46]:List UInt8)
           ·rw [if_pos c33] at H
            have c33b0:((rdOf ByteArray.empty l0_1 x3_2).toList == ([46,46]:List UInt8)) = true:=beq_iff_eq.mpr c33
            have c33b1:((rdOf ByteArray.empty l0_1 x3_2).toList != ([46,46]:List UInt8)) = false:=bne_eq_false_iff_eq.mpr c33
            clear c33
            obtain rfl:=Option.some.inj H
            have hcz34_0:wr.cell? ⟨gb247,0,none⟩ = some (.string a0_0):=(blk_cell BK247.out 0).trans rfl
            have hcz34_1:wr.cell? ⟨gb247,1,none⟩ = some (.slice A0_1 l0_1.length c0_1):=(blk_cell BK247.out 1).trans rfl
            have hcz34_2:wr.cell? ⟨gb247,2,none⟩ = some (.bool a0_2):=(blk_cell BK247.out 2).trans rfl
            have hcz34_3:wr.cell? ⟨gb247,3,none⟩ = some (.string a0_3):=(blk_cell BK247.out 3).trans rfl
            have hfz34_0:=blk_frozen BK247.out 0
            have hfz34_1:=blk_frozen BK247.out 1
            have hfz34_2:=blk_frozen BK247.out 2
            have hfz34_3:=blk_frozen BK247.out 3
            have p250:0 ≤ (x3_2:Int):=of_decide_eq_true (by first|(with_reducible assumption)|assumption)
            have q250:x3_2 < (l0_1.length:Int):=of_decide_eq_true (by first|(with_reducible assumption)|assumption)
            obtain ⟨ad250,e250,hx250_0⟩:=Kd.at_string HR0_1.out x3_2 p250 q250
            cases e250
            replace hx250_0:=(HB.out.cell (World.block_lt_of_cell? w _ hx250_0)).trans hx250_0
            replace p250:=eq_true p250
            replace q250:=eq_true q250
            go_wp2_with (first|((with_reducible refine gate_callee (f:=49) rfl ?_);refine goesL_ (some 42) rfl rfl Tryd.func49 (by kernel_rfl) rfl #[.string (rdOf ByteArray.empty l0_1 x3_2)] rfl (by (try simp only [List.map_toArray,List.map_cons,List.map_nil]);first|done|rfl|(simp only [List.length_drop,List.length_take];rfl)) ?_;(with_reducible refine (spec_l1Norm.calls k2 (rdOf ByteArray.empty l0_1 x3_2) true _ A23.out).mono ?_);rintro e w35 ⟨rfl,hb⟩;refine ⟨_,rfl,?_⟩;have n0_:=Aside0.mk (blk_below (g:=gb247) (o:=.cells #[.string a0_0,.slice (some ad250) l0_1.length c0_1,.bool a0_2,.string a0_3] 24 (0,0)) (by (with_reducible repeat (first|refine blk_drewN ?_ _|refine blk_drew ?_|refine blk_alloc ?_ _));exact BK247.out) hb);have n1_:=Aside0.mk (below_step (by repeat (first|(with_reducible first|exact HB.out|apply below_alloc|apply pw_below_drewN|apply below_drew1|refine below_set ?_ GE247.out)|exact HB.out)) hb);clear BK247;clear HB;have BK247:=n0_;have HB:=n1_;clear n0_ n1_;(try clear hb);(try clear hb2);(try clear hk);(try clear hi);have hcz36_0:w35.cell? ⟨gb247,0,none⟩ = some (.string a0_0):=(blk_cell BK247.out 0).trans rfl;have hcz36_1:w35.cell? ⟨gb247,1,none⟩ = some (.slice (some ad250) l0_1.length c0_1):=(blk_cell BK247.out 1).trans rfl;have hcz36_2:w35.cell? ⟨gb247,2,none⟩ = some (.bool a0_2):=(blk_cell BK247.out 2).trans rfl;have hcz36_3:w35.cell? ⟨gb247,3,none⟩ = some (.string a0_3):=(blk_cell BK247.out 3).trans rfl;have hfz36_0:=blk_frozen BK247.out 0;have hfz36_1:=blk_frozen BK247.out 1;have hfz36_2:=blk_frozen BK247.out 2;have hfz36_3:=blk_frozen BK247.out 3;have p252:0 ≤ (x3_2:Int):=of_decide_eq_true (by first|(with_reducible assumption)|assumption);have q252:x3_2 < (l0_1.length:Int):=of_decide_eq_true (by first|(with_reducible assumption)|assumption);obtain ⟨ad252,e252,hx252_0⟩:=Kd.at_string HR0_1.out x3_2 p252 q252;obtain rfl:ad250 = ad252:=(by injection e252);replace hx252_0:=(HB.out.cell (World.block_lt_of_cell? w _ hx252_0)).trans hx252_0;replace p252:=eq_true p252;replace q252:=eq_true q252;have p253:0 ≤ (x3_2:Int):=of_decide_eq_true (by first|(with_reducible assumption)|assumption);have q253:x3_2 < (l0_1.length:Int):=of_decide_eq_true (by first|(with_reducible assumption)|assumption);obtain ⟨ad253,e253,hx253_0⟩:=Kd.at_string HR0_1.out x3_2 p253 q253;obtain rfl:ad250 = ad253:=(by injection e253);replace hx253_0:=(HB.out.cell (World.block_lt_of_cell? w _ hx253_0)).trans hx253_0;replace p253:=eq_true p253;replace q253:=eq_true q253;have p254:0 ≤ (x3_2:Int):=of_decide_eq_true (by first|(with_reducible assumption)|assumption);have q254:x3_2 < (l0_1.length:Int):=of_decide_eq_true (by first|(with_reducible assumption)|assumption);obtain ⟨ad254,e254,hx254_0⟩:=Kd.at_string HR0_1.out x3_2 p254 q254;obtain rfl:ad250 = ad254:=(by injection e254);replace hx254_0:=(HB.out.cell (World.block_lt_of_cell? w _ hx254_0)).trans hx254_0;replace p254:=eq_true p254;replace q254:=eq_true q254))
            go_ret
            exact ⟨by first|rfl|(simp <;> rfl)|(simp [*] <;> rfl),by repeat (first|(with_reducible first|exact HB.out|apply below_alloc|apply pw_below_drewN|apply below_drew1|refine below_set ?_ GE247.out)|exact HB.out)⟩
           ·rw [if_neg c33] at H
            have c33b0:((rdOf ByteArray.empty l0_1 x3_2).toList == ([46,46]:List UInt8)) = false:=beq_eq_false_iff_ne.mpr c33
            have c33b1:((rdOf ByteArray.empty l0_1 x3_2).toList != ([46,46]:List UInt8)) = true:=bne_iff_ne.mpr c33
            have H':=Aside0.mk H
            clear H
            have hcz37_0:wr.cell? ⟨gb247,0,none⟩ = some (.string a0_0):=(blk_cell BK247.out 0).trans rfl
            have hcz37_1:wr.cell? ⟨gb247,1,none⟩ = some (.slice A0_1 l0_1.length c0_1):=(blk_cell BK247.out 1).trans rfl
            have hcz37_2:wr.cell? ⟨gb247,2,none⟩ = some (.bool a0_2):=(blk_cell BK247.out 2).trans rfl
            have hcz37_3:wr.cell? ⟨gb247,3,none⟩ = some (.string a0_3):=(blk_cell BK247.out 3).trans rfl
            have hfz37_0:=blk_frozen BK247.out 0
            have hfz37_1:=blk_frozen BK247.out 1
            have hfz37_2:=blk_frozen BK247.out 2
            have hfz37_3:=blk_frozen BK247.out 3
            have p250:0 ≤ (x3_2:Int):=of_decide_eq_true (by first|(with_reducible assumption)|assumption)
            have q250:x3_2 < (l0_1.length:Int):=of_decide_eq_true (by first|(with_reducible assumption)|assumption)
            obtain ⟨ad250,e250,hx250_0⟩:=Kd.at_string HR0_1.out x3_2 p250 q250
            cases e250
            replace hx250_0:=(HB.out.cell (World.block_lt_of_cell? w _ hx250_0)).trans hx250_0
            replace p250:=eq_true p250
            replace q250:=eq_true q250
            go_wp2_with (first|((with_reducible refine gate_callee (f:=49) rfl ?_);refine goesL_ (some 42) rfl rfl Tryd.func49 (by kernel_rfl) rfl #[.string (rdOf ByteArray.empty l0_1 x3_2)] rfl (by (try simp only [List.map_toArray,List.map_cons,List.map_nil]);first|done|rfl|(simp only [List.length_drop,List.length_take];rfl)) ?_;(with_reducible refine (spec_l1Norm.calls k2 (rdOf ByteArray.empty l0_1 x3_2) true _ A23.out).mono ?_);rintro e w38 ⟨rfl,hb⟩;refine ⟨_,rfl,?_⟩;have n0_:=Aside0.mk (blk_below (g:=gb247) (o:=.cells #[.string a0_0,.slice (some ad250) l0_1.length c0_1,.bool a0_2,.string a0_3] 24 (0,0)) (by (with_reducible repeat (first|refine blk_drewN ?_ _|refine blk_drew ?_|refine blk_alloc ?_ _));exact BK247.out) hb);have n1_:=Aside0.mk (below_step (by repeat (first|(with_reducible first|exact HB.out|apply below_alloc|apply pw_below_drewN|apply below_drew1|refine below_set ?_ GE247.out)|exact HB.out)) hb);clear BK247;clear HB;have BK247:=n0_;have HB:=n1_;clear n0_ n1_;(try clear hb);(try clear hb2);(try clear hk);(try clear hi);have hcz39_0:w38.cell? ⟨gb247,0,none⟩ = some (.string a0_0):=(blk_cell BK247.out 0).trans rfl;have hcz39_1:w38.cell? ⟨gb247,1,none⟩ = some (.slice (some ad250) l0_1.length c0_1):=(blk_cell BK247.out 1).trans rfl;have hcz39_2:w38.cell? ⟨gb247,2,none⟩ = some (.bool a0_2):=(blk_cell BK247.out 2).trans rfl;have hcz39_3:w38.cell? ⟨gb247,3,none⟩ = some (.string a0_3):=(blk_cell BK247.out 3).trans rfl;have hfz39_0:=blk_frozen BK247.out 0;have hfz39_1:=blk_frozen BK247.out 1;have hfz39_2:=blk_frozen BK247.out 2;have hfz39_3:=blk_frozen BK247.out 3;have p252:0 ≤ (x3_2:Int):=of_decide_eq_true (by first|(with_reducible assumption)|assumption);have q252:x3_2 < (l0_1.length:Int):=of_decide_eq_true (by first|(with_reducible assumption)|assumption);obtain ⟨ad252,e252,hx252_0⟩:=Kd.at_string HR0_1.out x3_2 p252 q252;obtain rfl:ad250 = ad252:=(by injection e252);replace hx252_0:=(HB.out.cell (World.block_lt_of_cell? w _ hx252_0)).trans hx252_0;replace p252:=eq_true p252;replace q252:=eq_true q252;have p253:0 ≤ (x3_2:Int):=of_decide_eq_true (by first|(with_reducible assumption)|assumption);have q253:x3_2 < (l0_1.length:Int):=of_decide_eq_true (by first|(with_reducible assumption)|assumption);obtain ⟨ad253,e253,hx253_0⟩:=Kd.at_string HR0_1.out x3_2 p253 q253;obtain rfl:ad250 = ad253:=(by injection e253);replace hx253_0:=(HB.out.cell (World.block_lt_of_cell? w _ hx253_0)).trans hx253_0;replace p253:=eq_true p253;replace q253:=eq_true q253;have p254:0 ≤ (x3_2:Int):=of_decide_eq_true (by first|(with_reducible assumption)|assumption);have q254:x3_2 < (l0_1.length:Int):=of_decide_eq_true (by first|(with_reducible assumption)|assumption);obtain ⟨ad254,e254,hx254_0⟩:=Kd.at_string HR0_1.out x3_2 p254 q254;obtain rfl:ad250 = ad254:=(by injection e254);replace hx254_0:=(HB.out.cell (World.block_lt_of_cell? w _ hx254_0)).trans hx254_0;replace p254:=eq_true p254;replace q254:=eq_true q254))
            go_roundg k2
            case measure=>have:=HJ1.out;have:=HK2.out;omega
            case rel=>exact ⟨(wrap64 (x3_2 + 1)),(by first|rfl|(simp;done)|(simp only [i64_w,i32_w];done)|(simp only [i64_w,i32_w];rfl)|(simp [*];done)|(simp [emp_bne,emp_beq];done)),H',⟨by have:=HJ1.out;have:=HK2.out;omega⟩,⟨by (with_reducible repeat (first|refine blk_drewN ?_ _|refine blk_drew ?_|refine blk_alloc ?_ _));exact BK247.out⟩,⟨by repeat (first|(with_reducible first|exact HB.out|apply below_alloc|apply pw_below_drewN|apply below_drew1|refine below_set ?_ GE247.out)|exact HB.out)⟩⟩
        ·replace c24:=Bool.eq_false_iff.mpr c24
         subst c24
         have H1:(some false) = some r:=by rw [if_neg (show ¬ (false = true) by decide)] at H;exact H
         clear H
         have H:=H1
         clear H1
         obtain rfl:=Option.some.inj H
         have hcz40_0:wr.cell? ⟨gb247,0,none⟩ = some (.string a0_0):=(blk_cell BK247.out 0).trans rfl
         have hcz40_1:wr.cell? ⟨gb247,1,none⟩ = some (.slice A0_1 l0_1.length c0_1):=(blk_cell BK247.out 1).trans rfl
         have hcz40_2:wr.cell? ⟨gb247,2,none⟩ = some (.bool a0_2):=(blk_cell BK247.out 2).trans rfl
         have hcz40_3:wr.cell? ⟨gb247,3,none⟩ = some (.string a0_3):=(blk_cell BK247.out 3).trans rfl
         have hfz40_0:=blk_frozen BK247.out 0
         have hfz40_1:=blk_frozen BK247.out 1
         have hfz40_2:=blk_frozen BK247.out 2
         have hfz40_3:=blk_frozen BK247.out 3
         have p250:0 ≤ (x3_2:Int):=of_decide_eq_true (by first|(with_reducible assumption)|assumption)
         have q250:x3_2 < (l0_1.length:Int):=of_decide_eq_true (by first|(with_reducible assumption)|assumption)
         obtain ⟨ad250,e250,hx250_0⟩:=Kd.at_string HR0_1.out x3_2 p250 q250
         cases e250
         replace hx250_0:=(HB.out.cell (World.block_lt_of_cell? w _ hx250_0)).trans hx250_0
         replace p250:=eq_true p250
         replace q250:=eq_true q250
         go_wp2_with (first|((with_reducible refine gate_callee (f:=49) rfl ?_);refine goesL_ (some 42) rfl rfl Tryd.func49 (by kernel_rfl) rfl #[.string (rdOf ByteArray.empty l0_1 x3_2)] rfl (by (try simp only [List.map_toArray,List.map_cons,List.map_nil]);first|done|rfl|(simp only [List.length_drop,List.length_take];rfl)) ?_;(with_reducible refine (spec_l1Norm.calls k2 (rdOf ByteArray.empty l0_1 x3_2) false _ A23.out).mono ?_);rintro e w41 ⟨rfl,hb⟩;refine ⟨_,rfl,?_⟩;have n0_:=Aside0.mk (blk_below (g:=gb247) (o:=.cells #[.string a0_0,.slice (some ad250) l0_1.length c0_1,.bool a0_2,.string a0_3] 24 (0,0)) (by (with_reducible repeat (first|refine blk_drewN ?_ _|refine blk_drew ?_|refine blk_alloc ?_ _));exact BK247.out) hb);have n1_:=Aside0.mk (below_step (by repeat (first|(with_reducible first|exact HB.out|apply below_alloc|apply pw_below_drewN|apply below_drew1|refine below_set ?_ GE247.out)|exact HB.out)) hb);clear BK247;clear HB;have BK247:=n0_;have HB:=n1_;clear n0_ n1_;(try clear hb);(try clear hb2);(try clear hk);(try clear hi)))
         go_ret
         exact ⟨by first|rfl|(simp <;> rfl)|(simp [*] <;> rfl),by repeat (first|(with_reducible first|exact HB.out|apply below_alloc|apply pw_below_drewN|apply below_drew1|refine below_set ?_ GE247.out)|exact HB.out)⟩
       ·rw [if_neg c22] at H
        exact absurd H (by simp)
      ·rw [if_neg c21] at H
       have c21b0:decide (x3_2 < (l0_1.length:Int)) = false:=decide_eq_false c21
       clear c21
       replace H:=Option.bind_eq_some_iff.mp H
       obtain ⟨t255,A420,H⟩:=H
       replace H:(some (decide ((t255.size:Int) ≤ 60))) = some r:=H
       have A42:=Aside0.mk A420
       clear A420
       obtain rfl:=Option.some.inj H
       have hcz43_0:wr.cell? ⟨gb247,0,none⟩ = some (.string a0_0):=(blk_cell BK247.out 0).trans rfl
       have hcz43_1:wr.cell? ⟨gb247,1,none⟩ = some (.slice A0_1 l0_1.length c0_1):=(blk_cell BK247.out 1).trans rfl
       have hcz43_2:wr.cell? ⟨gb247,2,none⟩ = some (.bool a0_2):=(blk_cell BK247.out 2).trans rfl
       have hcz43_3:wr.cell? ⟨gb247,3,none⟩ = some (.string a0_3):=(blk_cell BK247.out 3).trans rfl
       have hfz43_0:=blk_frozen BK247.out 0
       have hfz43_1:=blk_frozen BK247.out 1
       have hfz43_2:=blk_frozen BK247.out 2
       have hfz43_3:=blk_frozen BK247.out 3
       go_wp2_with (first|((with_reducible refine gate_callee (f:=30) rfl ?_);refine goesL_ (some 69) rfl rfl Tryd.func30 (by kernel_rfl) rfl #[.agg #[.string a0_0,.slice A0_1 l0_1.length c0_1,.bool a0_2,.string a0_3]] rfl (by (try simp only [List.map_toArray,List.map_cons,List.map_nil]);first|done|rfl|(simp only [List.length_drop,List.length_take];rfl)) ?_;(with_reducible refine (spec_l1Text.calls k2 a0_0 _ _ l0_1 a0_2 a0_3 t255 _ ?side1 ?side2 A42.out).mono ?_);(case side1=>repeat (first|exact (Kd.C_below HR0_1.out HB.out)|(with_reducible refine Kd.C_alloc ?_ _)|(with_reducible refine Kd.C_drewN ?_ _)|(with_reducible refine Kd.C_drew ?_)));(case side2=>exact HC0_1.out);rintro e w44 ⟨rfl,hb⟩;refine ⟨_,rfl,?_⟩;have n0_:=Aside0.mk (blk_below (g:=gb247) (o:=.cells #[.string a0_0,.slice A0_1 l0_1.length c0_1,.bool a0_2,.string a0_3] 24 (0,0)) (by (with_reducible repeat (first|refine blk_drewN ?_ _|refine blk_drew ?_|refine blk_alloc ?_ _));exact BK247.out) hb);have n1_:=Aside0.mk (below_step (by repeat (first|(with_reducible first|exact HB.out|apply below_alloc|apply pw_below_drewN|apply below_drew1|refine below_set ?_ GE247.out)|exact HB.out)) hb);clear BK247;clear HB;have BK247:=n0_;have HB:=n1_;clear n0_ n1_;(try clear hb);(try clear hb2);(try clear hk);(try clear hi)))
       go_ret
       exact ⟨by first|rfl|(simp <;> rfl)|(simp [*] <;> rfl),by repeat (first|(with_reducible first|exact HB.out|apply below_alloc|apply pw_below_drewN|apply below_drew1|refine below_set ?_ GE247.out)|exact HB.out)⟩

/-! ### spec_l1Split: function 53 -/
def spec_l1Split.l0:Nat → Int → List ByteArray → ByteArray → Bool → Option (List ByteArray)
 | 0,_,_,_,_=>none
 | k + 1,x1,x5,x6,x7=>if x7 = true then ((spec_l1Cut.f k x6 x1).bind fun bt259=>(if x5.length < 8796093022208 then (spec_l1Split.l0 k x1 (x5 ++ [bt259.1]) bt259.2.1 bt259.2.2) else (none))) else (some x5)
def spec_l1Split.f (k:Nat) (a0:ByteArray) (a1:Int):Option (List ByteArray):=spec_l1Split.l0 k a1 (([]:List ByteArray)) a0 true
theorem spec_l1Split.mono_l:∀ k,(∀ y0 y1 y2 y3,LeO (spec_l1Split.l0 k y0 y1 y2 y3) (spec_l1Split.l0 (k + 1) y0 y1 y2 y3))
 | 0=>fun _ _ _ _ r h=>by simp [spec_l1Split.l0] at h
 | k + 1=>by
  have ih0:=spec_l1Split.mono_l k
  ·intro y0 y1 y2 y3
   unfold spec_l1Split.l0
   repeat' first
   | (with_reducible exact ih0 _ _ _ _)
   | (with_reducible exact spec_l1Cut.mono _ _ _)
   | (with_reducible exact LeO.refl _)
   | (with_reducible exact LeO.none _)
   | (with_reducible refine LeO.ite ?_ ?_)
   | (with_reducible refine LeO.bind ?_ (fun _=>?_))
   | exact ih0 _ _ _ _
   | exact spec_l1Cut.mono _ _ _
   | exact LeO.none _
   | refine LeO.ite ?_ ?_
   | refine LeO.bind ?_ (fun _=>?_)
theorem spec_l1Split.mono:∀ a0 a1 k,LeO (spec_l1Split.f k a0 a1) (spec_l1Split.f (k + 1) a0 a1):=by
 intro a0 a1 k
 have ih0:=spec_l1Split.mono_l k
 unfold spec_l1Split.f
 repeat' first
   | (with_reducible exact ih0 _ _ _ _)
   | (with_reducible exact spec_l1Cut.mono _ _ _)
   | (with_reducible exact LeO.refl _)
   | (with_reducible exact LeO.none _)
   | (with_reducible refine LeO.ite ?_ ?_)
   | (with_reducible refine LeO.bind ?_ (fun _=>?_))
   | exact ih0 _ _ _ _
   | exact spec_l1Cut.mono _ _ _
   | exact LeO.none _
   | refine LeO.ite ?_ ?_
   | refine LeO.bind ?_ (fun _=>?_)
theorem spec_l1Split.calls (k:Nat) (a0:ByteArray) (a1:Int) (r:List ByteArray) (w:World) (h:spec_l1Split.f k a0 a1 = some r) :
  Calls Tryd.prog 53 #[.string a0,.int .u8 a1] w fun e w'=>∃ v0_:Value,e = .returned (v0_) ∧ Kd.R Kd.string 9 w' w.heap.size (fun _=>True) v0_ r ∧ Below w.heap.size w w':=by
 have HB:=Aside0.mk (Below.refl w.heap.size w)
 have H:(spec_l1Split.l0 k a1 (([]:List ByteArray)) a0 true) = some r:=h
 clear h
 obtain ⟨y256,hy256⟩:∃ y_:List ByteArray,y_ = (([]:List ByteArray)):=⟨_,rfl⟩
 replace H:(spec_l1Split.l0 k a1 y256 a0 true) = some r:=by first|(rw [hy256];with_reducible exact H)|(have H2_:=(Option.bind_some _ _).symm.trans H;rw [hy256];with_reducible exact H2_)|(have H2_:=(Option.bind_some _ _).symm.trans H;with_reducible exact H2_)|with_reducible exact H|(rw [hy256];exact H)|exact H
 have Ny256:=Aside0.mk hy256
 clear hy256
 have H':=Aside0.mk H
 clear H
 go_enter Tryd.func53,Tryd.ntmps53
 go_wp2_with (first|((with_reducible refine gate_dst (N:=9) rfl ?_);refine Kd.R_lit Kd.string _ 9 ?hg (N:=9) ?hd (xs:=([]:List ByteArray)) (inner:=[]) (ok:=fun _=>True) (okp:=fun _=>True) ?hr ?hp (fun _ hk=>hk) trivial (Below.refl _ _) (Nat.le_refl _) (by simp) ?_;(case hd=>rfl);(case hg=>rfl);(case hr=>first|(go_simp;done)|(go_simp;rfl));(case hp=>exact (Reps.none _ _));intro v257 w3 ho4 hb hg_ hnew_;clear hg_ hnew_;(first|rw [← Ny256.out] at ho4|(simp only [Int.reduceToNat] at ho4;rw [← Ny256.out] at ho4));have n0_:=Aside0.mk (Kd.R_lower ho4 (below_size (by repeat (first|(with_reducible first|exact HB.out|apply below_alloc|apply pw_below_drewN|apply below_drew1)|exact HB.out))));have n1_:=Aside0.mk (below_step (by repeat (first|(with_reducible first|exact HB.out|apply below_alloc|apply pw_below_drewN|apply below_drew1)|exact HB.out)) hb);clear HB;have HO258:=n0_;have HB:=n1_;clear n0_ n1_;clear hb ho4))
 go_loopg [5,6,7] k (fun kq v5 v6 v7 w'=>∃ (x5_1:List ByteArray) (x6_1:ByteArray) (x7_1:Bool),v6 = .string x6_1 ∧ v7 = .bool x7_1 ∧ Aside0 (spec_l1Split.l0 kq a1 x5_1 x6_1 x7_1 = some r) ∧ Aside0 (kq ≤ k) ∧ Aside0 (Kd.R Kd.string 9 w' w.heap.size (fun _=>True) v5 x5_1) ∧ Aside0 (Below w.heap.size w w'))
 case atStart=>exact ⟨(y256),(a0),(true),(by first|rfl|(simp;done)|(simp only [i64_w,i32_w];done)|(simp only [i64_w,i32_w];rfl)|(simp [*];done)|(simp [emp_bne,emp_beq];done)),(by first|rfl|(simp;done)|(simp only [i64_w,i32_w];done)|(simp only [i64_w,i32_w];rfl)|(simp [*];done)|(simp [emp_bne,emp_beq];done)),H',⟨Nat.le_refl _⟩,⟨by (with_reducible repeat (first|apply Kd.R_alloc|apply Kd.R_drewN|apply Kd.R_drew));exact HO258.out⟩,⟨by repeat (first|(with_reducible first|exact HB.out|apply below_alloc|apply pw_below_drewN|apply below_drew1)|exact HB.out)⟩⟩
 case round =>
  clear H'
  try clear p2
  obtain ⟨x5_1,x6_1,x7_1,rfl,rfl,HA,HK1,HO_5,HB⟩:=hrel
  cases gk with
  | zero=>exact absurd HA.out (by simp [spec_l1Split.l0])
  | succ k1 =>
   have H:=HA.out
   clear HA
   simp only [spec_l1Split.l0] at H
   by_cases c5:x7_1 = true
   ·subst c5
    have H1:((spec_l1Cut.f k1 x6_1 a1).bind fun bt259=>(if x5_1.length < 8796093022208 then (spec_l1Split.l0 k1 a1 (x5_1 ++ [bt259.1]) bt259.2.1 bt259.2.2) else (none))) = some r:=by rw [if_pos rfl] at H;exact H
    clear H
    have H:=H1
    clear H1
    replace H:=Option.bind_eq_some_iff.mp H
    obtain ⟨⟨t259,t260,t261⟩,A60,H⟩:=H
    replace H:(if x5_1.length < 8796093022208 then (spec_l1Split.l0 k1 a1 (x5_1 ++ [t259]) t260 t261) else (none)) = some r:=H
    have A6:=Aside0.mk A60
    clear A60
    by_cases c7:x5_1.length < 8796093022208
    ·rw [if_pos c7] at H
     have LMc7:=Aside0.mk c7
     clear c7
     obtain ⟨y262,hy262⟩:∃ y_:List ByteArray,y_ = (x5_1 ++ [t259]):=⟨_,rfl⟩
     replace H:(spec_l1Split.l0 k1 a1 y262 t260 t261) = some r:=by first|(rw [hy262];with_reducible exact H)|(have H2_:=(Option.bind_some _ _).symm.trans H;rw [hy262];with_reducible exact H2_)|(have H2_:=(Option.bind_some _ _).symm.trans H;with_reducible exact H2_)|with_reducible exact H|(rw [hy262];exact H)|exact H
     have Ny262:=Aside0.mk hy262
     clear hy262
     have H':=Aside0.mk H
     clear H
     go_wp2_with (first|((with_reducible refine gate_callee (f:=19) rfl ?_);refine goesL_ (some 15) rfl rfl Tryd.func19 (by kernel_rfl) rfl #[.string x6_1,.int .u8 a1] rfl (by (try simp only [List.map_toArray,List.map_cons,List.map_nil]);first|done|rfl|(simp only [List.length_drop,List.length_take];rfl)) ?_;(with_reducible refine (spec_l1Cut.calls k1 x6_1 a1 t259 t260 t261 _ A6.out).mono ?_);rintro e w' ⟨rfl,⟨nd,rfl⟩⟩;refine ⟨_,rfl,?_⟩)|((with_reducible refine gate_builtin (b:=.append) (xs:=#[.tmp 19,.tmp 21]) rfl ?_);at_builtin;refine Kd.R_append Kd.string (w0:=w) w.heap.size rfl (.tmp 19) (.tmp 21) 22 9 (.string ⟨#[]⟩) 16 rfl Tryd.underlying22 info9 rfl (by decide) (by omega) u5 x5_1 t259 [.string t259] (fun _=>True) (fun _=>False) rfl rfl ?aP (fun _ hk=>hk.elim) ?aF ?aO ?aB ?aS ?aL ?_;(case aP=>exact rfl);(case aB=>exact (by repeat (first|(with_reducible first|exact HB.out|apply below_alloc|apply pw_below_drewN|apply below_drew1)|exact HB.out)));(case aF=>exact (fun _ _=>trivial));(case aO=>exact (by (with_reducible repeat (first|apply Kd.R_alloc|apply Kd.R_drewN|apply Kd.R_drew));exact HO_5.out));(case aS=>exact (below_size (by repeat (first|(with_reducible first|exact HB.out|apply below_alloc|apply pw_below_drewN|apply below_drew1)|exact HB.out))));(case aL=>have:=LMc7.out;omega);intro v263 w8 ho hb hg hat;rw [← Ny262.out] at ho;have n0_:=Aside0.mk (hb);have n1_:=Aside0.mk (ho);clear HB;clear HO_5;have HB:=n0_;have HO264:=n1_;clear n0_ n1_;clear ho hb hg hat))
     go_roundg k1
     case measure=>have:=HK1.out;omega
     case rel=>exact ⟨(y262),(t260),(t261),(by first|rfl|(simp;done)|(simp only [i64_w,i32_w];done)|(simp only [i64_w,i32_w];rfl)|(simp [*];done)|(simp [emp_bne,emp_beq];done)),(by first|rfl|(simp;done)|(simp only [i64_w,i32_w];done)|(simp only [i64_w,i32_w];rfl)|(simp [*];done)|(simp [emp_bne,emp_beq];done)),H',⟨by have:=HK1.out;omega⟩,⟨by (with_reducible repeat (first|apply Kd.R_alloc|apply Kd.R_drewN|apply Kd.R_drew));exact HO264.out⟩,⟨by repeat (first|(with_reducible first|exact HB.out|apply below_alloc|apply pw_below_drewN|apply below_drew1)|exact HB.out)⟩⟩
    ·rw [if_neg c7] at H
     exact absurd H (by simp)
   ·replace c5:=Bool.eq_false_iff.mpr c5
    subst c5
    have H1:(some x5_1) = some r:=by rw [if_neg (show ¬ (false = true) by decide)] at H;exact H
    clear H
    have H:=H1
    clear H1
    obtain rfl:=Option.some.inj H
    go_wp2
    go_ret
    exact ⟨_,by first|rfl|(simp <;> rfl)|(simp [*] <;> rfl),by (with_reducible repeat (first|apply Kd.R_alloc|apply Kd.R_drewN|apply Kd.R_drew));exact HO_5.out,by repeat (first|(with_reducible first|exact HB.out|apply below_alloc|apply pw_below_drewN|apply below_drew1)|exact HB.out)⟩

end Go.Proofs.YtochmlkladpfgaaDoor.P
