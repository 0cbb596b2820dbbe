-- Written by a program of this session (patch_print.py over the kit's print; given texts in wip/given).
-- Cut down by a program of this session (wip/tools/prune.py) to what its claim can name.
import Derived.Test.YtheakfegchndcaaPx0
import Derived.Test.YtheakfegchndcaaPx11
import Derived.Test.YtheakfegchndcaaPx12
namespace Go.Proofs.Ytheakfegchndcaa.P
open Go.RowKit Go.Proofs.YtheakfegchndcaaW.PrintWords Go.Proofs.YtheakfegchndcaaW.PrintLast Go.Proofs.YtheakfegchndcaaW.PrintMore
attribute [local go_sem] max2_int min2_int max_two min_two max_three min_three max_four min_four   -- for this text's walks alone
set_option linter.unusedVariables false
set_option linter.unusedSimpArgs false
set_option maxHeartbeats 8000000
set_option maxRecDepth 100000

/-! ### spec_NoticeOk: function 20 -/
mutual
def spec_NoticeOk.l0:Nat → List (S30) → Int → Int → Option (Bool)
 | 0,_,_,_=>none
 | k + 1,x0,x3,x4=>if x4 < (x0.length:Int) then (if 0 ≤ x4 then (if (((rd_T30 x0 x4).f0).length:Int) = 0 then (spec_NoticeOk.j1 k x0 x3 x4 true ((rd_T30 x0 x4).f0) ((rd_T30 x0 x4).f1) ((rd_T30 x0 x4).f2)) else (if (((rd_T30 x0 x4).f1).length:Int) = 0 then (if ((rd_T30 x0 x4).f2) = 0 then (spec_NoticeOk.j1 k x0 x3 x4 true ((rd_T30 x0 x4).f0) ((rd_T30 x0 x4).f1) ((rd_T30 x0 x4).f2)) else (if (((rd_T30 x0 x4).f1).length:Int) > 6 then (spec_NoticeOk.j1 k x0 x3 x4 true ((rd_T30 x0 x4).f0) ((rd_T30 x0 x4).f1) ((rd_T30 x0 x4).f2)) else ((spec_l6In.f ((rd_T30 x0 x4).f2) 0 20).bind fun t259=>(spec_NoticeOk.j1 k x0 x3 x4 (!t259) ((rd_T30 x0 x4).f0) ((rd_T30 x0 x4).f1) ((rd_T30 x0 x4).f2))))) else (if (((rd_T30 x0 x4).f1).length:Int) > 6 then (spec_NoticeOk.j1 k x0 x3 x4 true ((rd_T30 x0 x4).f0) ((rd_T30 x0 x4).f1) ((rd_T30 x0 x4).f2)) else ((spec_l6In.f ((rd_T30 x0 x4).f2) 0 20).bind fun t260=>(spec_NoticeOk.j1 k x0 x3 x4 (!t260) ((rd_T30 x0 x4).f0) ((rd_T30 x0 x4).f1) ((rd_T30 x0 x4).f2)))))) else (none)) else (some (decide (x3 ≤ 40)))
def spec_NoticeOk.j1:Nat → List (S30) → Int → Int → Bool → List ByteArray → List (S57) → Int → Option (Bool)
 | 0,_,_,_,_,_,_,_=>none
 | k + 1,x0,x3,x4,x44,x259000,x259001,x259002=>if x44 = true then (some false) else (spec_NoticeOk.l1 k x0 x3 x4 0 x259000 x259001 x259002)
def spec_NoticeOk.l1:Nat → List (S30) → Int → Int → Int → List ByteArray → List (S57) → Int → Option (Bool)
 | 0,_,_,_,_,_,_,_=>none
 | k + 1,x0,x3,x4,x6,x259000,x259001,x259002=>if x6 < (x259000.length:Int) then (if 0 ≤ x6 then (if (rdOf ByteArray.empty x259000 x6).toList = ([42]:List UInt8) then (spec_NoticeOk.l1 k x0 x3 x4 (wrap64 (x6 + 1)) x259000 x259001 x259002) else ((spec_l2Name.f k (rdOf ByteArray.empty x259000 x6)).bind fun t263=>(if t263 = true then (spec_NoticeOk.l1 k x0 x3 x4 (wrap64 (x6 + 1)) x259000 x259001 x259002) else (some false)))) else (none)) else (spec_NoticeOk.l2 k x0 x3 x4 0 x259000 x259001 x259002)
def spec_NoticeOk.l2:Nat → List (S30) → Int → Int → Int → List ByteArray → List (S57) → Int → Option (Bool)
 | 0,_,_,_,_,_,_,_=>none
 | k + 1,x0,x3,x4,x7,x259000,x259001,x259002=>if x7 < (x259001.length:Int) then (if 0 ≤ x7 then ((spec_RuleOk.f k ((rd_T57 x259001 x7).f1)).bind fun t265=>(if t265 = true then (spec_NoticeOk.l2 k x0 x3 x4 (wrap64 (x7 + 1)) x259000 x259001 x259002) else (some false))) else (none)) else (spec_NoticeOk.l0 k x0 (wrap64 ((wrap64 ((wrap64 (x3 + (x259000.length:Int))) + (x259001.length:Int))) + 1)) (wrap64 (x4 + 1)))
end
def spec_NoticeOk.f (k:Nat) (l0:List (S30)):Option (Bool):=spec_NoticeOk.l0 k l0 0 0
theorem spec_NoticeOk.mono_l:∀ k,(∀ y0 y1 y2,LeO (spec_NoticeOk.l0 k y0 y1 y2) (spec_NoticeOk.l0 (k + 1) y0 y1 y2)) ∧ (∀ y0 y1 y2 y3 y4 y5 y6,LeO (spec_NoticeOk.j1 k y0 y1 y2 y3 y4 y5 y6) (spec_NoticeOk.j1 (k + 1) y0 y1 y2 y3 y4 y5 y6)) ∧ (∀ y0 y1 y2 y3 y4 y5 y6,LeO (spec_NoticeOk.l1 k y0 y1 y2 y3 y4 y5 y6) (spec_NoticeOk.l1 (k + 1) y0 y1 y2 y3 y4 y5 y6)) ∧ (∀ y0 y1 y2 y3 y4 y5 y6,LeO (spec_NoticeOk.l2 k y0 y1 y2 y3 y4 y5 y6) (spec_NoticeOk.l2 (k + 1) y0 y1 y2 y3 y4 y5 y6))
 | 0=>⟨fun _ _ _ r h=>by simp [spec_NoticeOk.l0] at h,fun _ _ _ _ _ _ _ r h=>by simp [spec_NoticeOk.j1] at h,fun _ _ _ _ _ _ _ r h=>by simp [spec_NoticeOk.l1] at h,fun _ _ _ _ _ _ _ r h=>by simp [spec_NoticeOk.l2] at h⟩
 | k + 1=>by
  obtain ⟨ih0,ih1,ih2,ih3⟩:=spec_NoticeOk.mono_l k
  refine ⟨?_,?_,?_,?_⟩
  ·intro y0 y1 y2
   unfold spec_NoticeOk.l0
   repeat' first
   | (with_reducible exact ih0 _ _ _)
   | (with_reducible exact ih1 _ _ _ _ _ _ _)
   | (with_reducible exact ih2 _ _ _ _ _ _ _)
   | (with_reducible exact ih3 _ _ _ _ _ _ _)
   | (with_reducible exact spec_RuleOk.mono _ _)
   | (with_reducible exact spec_l2Name.mono _ _)
   | (with_reducible exact LeO.refl _)
   | (with_reducible exact LeO.none _)
   | (with_reducible refine LeO.ite ?_ ?_)
   | (with_reducible refine LeO.bind ?_ (fun _=>?_))
   | exact ih0 _ _ _
   | exact ih1 _ _ _ _ _ _ _
   | exact ih2 _ _ _ _ _ _ _
   | exact ih3 _ _ _ _ _ _ _
   | exact spec_RuleOk.mono _ _
   | exact spec_l2Name.mono _ _
   | exact LeO.none _
   | refine LeO.ite ?_ ?_
   | refine LeO.bind ?_ (fun _=>?_)
  ·intro y0 y1 y2 y3 y4 y5 y6
   unfold spec_NoticeOk.j1
   repeat' first
   | (with_reducible exact ih0 _ _ _)
   | (with_reducible exact ih1 _ _ _ _ _ _ _)
   | (with_reducible exact ih2 _ _ _ _ _ _ _)
   | (with_reducible exact ih3 _ _ _ _ _ _ _)
   | (with_reducible exact spec_RuleOk.mono _ _)
   | (with_reducible exact spec_l2Name.mono _ _)
   | (with_reducible exact LeO.refl _)
   | (with_reducible exact LeO.none _)
   | (with_reducible refine LeO.ite ?_ ?_)
   | (with_reducible refine LeO.bind ?_ (fun _=>?_))
   | exact ih0 _ _ _
   | exact ih1 _ _ _ _ _ _ _
   | exact ih2 _ _ _ _ _ _ _
   | exact ih3 _ _ _ _ _ _ _
   | exact spec_RuleOk.mono _ _
   | exact spec_l2Name.mono _ _
   | exact LeO.none _
   | refine LeO.ite ?_ ?_
   | refine LeO.bind ?_ (fun _=>?_)
  ·intro y0 y1 y2 y3 y4 y5 y6
   unfold spec_NoticeOk.l1
   repeat' first
   | (with_reducible exact ih0 _ _ _)
   | (with_reducible exact ih1 _ _ _ _ _ _ _)
   | (with_reducible exact ih2 _ _ _ _ _ _ _)
   | (with_reducible exact ih3 _ _ _ _ _ _ _)
   | (with_reducible exact spec_RuleOk.mono _ _)
   | (with_reducible exact spec_l2Name.mono _ _)
   | (with_reducible exact LeO.refl _)
   | (with_reducible exact LeO.none _)
   | (with_reducible refine LeO.ite ?_ ?_)
   | (with_reducible refine LeO.bind ?_ (fun _=>?_))
   | exact ih0 _ _ _
   | exact ih1 _ _ _ _ _ _ _
   | exact ih2 _ _ _ _ _ _ _
   | exact ih3 _ _ _ _ _ _ _
   | exact spec_RuleOk.mono _ _
   | exact spec_l2Name.mono _ _
   | exact LeO.none _
   | refine LeO.ite ?_ ?_
   | refine LeO.bind ?_ (fun _=>?_)
  ·intro y0 y1 y2 y3 y4 y5 y6
   unfold spec_NoticeOk.l2
   repeat' first
   | (with_reducible exact ih0 _ _ _)
   | (with_reducible exact ih1 _ _ _ _ _ _ _)
   | (with_reducible exact ih2 _ _ _ _ _ _ _)
   | (with_reducible exact ih3 _ _ _ _ _ _ _)
   | (with_reducible exact spec_RuleOk.mono _ _)
   | (with_reducible exact spec_l2Name.mono _ _)
   | (with_reducible exact LeO.refl _)
   | (with_reducible exact LeO.none _)
   | (with_reducible refine LeO.ite ?_ ?_)
   | (with_reducible refine LeO.bind ?_ (fun _=>?_))
   | exact ih0 _ _ _
   | exact ih1 _ _ _ _ _ _ _
   | exact ih2 _ _ _ _ _ _ _
   | exact ih3 _ _ _ _ _ _ _
   | exact spec_RuleOk.mono _ _
   | exact spec_l2Name.mono _ _
   | exact LeO.none _
   | refine LeO.ite ?_ ?_
   | refine LeO.bind ?_ (fun _=>?_)
theorem spec_NoticeOk.mono:∀ a0 k,LeO (spec_NoticeOk.f k a0) (spec_NoticeOk.f (k + 1) a0):=by
 intro a0 k
 obtain ⟨ih0,ih1,ih2,ih3⟩:=spec_NoticeOk.mono_l k
 unfold spec_NoticeOk.f
 repeat' first
   | (with_reducible exact ih0 _ _ _)
   | (with_reducible exact ih1 _ _ _ _ _ _ _)
   | (with_reducible exact ih2 _ _ _ _ _ _ _)
   | (with_reducible exact ih3 _ _ _ _ _ _ _)
   | (with_reducible exact spec_RuleOk.mono _ _)
   | (with_reducible exact spec_l2Name.mono _ _)
   | (with_reducible exact LeO.refl _)
   | (with_reducible exact LeO.none _)
   | (with_reducible refine LeO.ite ?_ ?_)
   | (with_reducible refine LeO.bind ?_ (fun _=>?_))
   | exact ih0 _ _ _
   | exact ih1 _ _ _ _ _ _ _
   | exact ih2 _ _ _ _ _ _ _
   | exact ih3 _ _ _ _ _ _ _
   | exact spec_RuleOk.mono _ _
   | exact spec_l2Name.mono _ _
   | exact LeO.none _
   | refine LeO.ite ?_ ?_
   | refine LeO.bind ?_ (fun _=>?_)
theorem spec_NoticeOk.calls (k:Nat) (A0:Option Addr) (c0:Nat) (l0:List (S30)) (r:Bool) (w:World) (hr0:Kd.C k30 w A0 l0.length l0) (hc0:l0.length ≤ c0) (h:spec_NoticeOk.f k l0 = some r) :
  Calls Try.prog 20 #[.slice A0 l0.length c0] w fun e w'=>e = .returned (.bool r) ∧ Below w.heap.size w w':=by
 have hu30:=Try.underlying30
 have HR0:=Aside0.mk hr0
 have HC0:=Aside0.mk hc0
 clear hr0 hc0
 have HB:=Aside0.mk (Below.refl w.heap.size w)
 have H:(spec_NoticeOk.l0 k l0 0 0) = some r:=h
 clear h
 have H':=Aside0.mk H
 clear H
 go_enter Try.func20,Try.ntmps20
 go_wp2
 go_loopg [3,4] k (fun kq v3 v4 w'=>∃ (x3_1:Int) (x4_1:Int),v3 = .int .i64 x3_1 ∧ v4 = .int .i64 x4_1 ∧ Aside0 (spec_NoticeOk.l0 kq l0 x3_1 x4_1 = some r) ∧ Aside0 (kq ≤ k) ∧ Aside0 (Below w.heap.size w w'))
 case atStart=>exact ⟨(0),(0),(by first|rfl|(simp;done)|(simp only [i64_w,i32_w];done)|(simp only [i64_w,i32_w];rfl)|(simp [*];done)|(simp [emp_bne,emp_beq];done)),(by first|rfl|(simp;done)|(simp only [i64_w,i32_w];done)|(simp only [i64_w,i32_w];rfl)|(simp [*];done)|(simp [emp_bne,emp_beq];done)),H',⟨Nat.le_refl _⟩,⟨by repeat (first|(with_reducible first|exact HB.out|apply below_alloc|apply pw_below_drewN|apply below_drew1)|exact HB.out)⟩⟩
 case round =>
  clear H'
  obtain ⟨x3_1,x4_1,rfl,rfl,HA,HK1,HB⟩:=hrel
  cases gk with
  | zero=>exact absurd HA.out (by simp [spec_NoticeOk.l0])
  | succ k1 =>
   have H:=HA.out
   clear HA
   simp only [spec_NoticeOk.l0] at H
   by_cases c2:x4_1 < (l0.length:Int)
   ·rw [if_pos c2] at H
    have c2b0:decide (x4_1 < (l0.length:Int)) = true:=decide_eq_true c2
    clear c2
    by_cases c3:0 ≤ x4_1
    ·rw [if_pos c3] at H
     have c3b0:decide (0 ≤ x4_1) = true:=decide_eq_true c3
     clear c3
     have HC4:=Aside0.mk H
     clear H
     have p257:0 ≤ (x4_1:Int):=of_decide_eq_true (by first|(with_reducible assumption)|assumption)
     have q257:x4_1 < (l0.length:Int):=of_decide_eq_true (by first|(with_reducible assumption)|assumption)
     obtain ⟨ad257,A257_0,c257_0,A257_1,c257_1,e257,hx257_0,hx257_1,hx257_2,hl257_0,hi257_0,hl257_1,hi257_1⟩:=at_T30 HR0.out x4_1 p257 q257
     cases e257
     replace hx257_0:=(HB.out.cell (World.block_lt_of_cell? w _ hx257_0)).trans hx257_0
     replace hx257_1:=(HB.out.cell (World.block_lt_of_cell? w _ hx257_1)).trans hx257_1
     replace hx257_2:=(HB.out.cell (World.block_lt_of_cell? w _ hx257_2)).trans hx257_2
     have HR257_0:=Aside0.mk hi257_0
     have HC257_0:=Aside0.mk hl257_0
     clear hi257_0 hl257_0
     have HR257_1:=Aside0.mk hi257_1
     have HC257_1:=Aside0.mk hl257_1
     clear hi257_1 hl257_1
     replace p257:=eq_true p257
     replace q257:=eq_true q257
     go_upto_region 6 with (first|((with_reducible refine gate_dst (N:=5) rfl ?_);(try (refine gate_guard (by rfl) ?_;dsimp only));refine box_event ?hg (N:=5) ?hd (cs:=#[.slice none 0 0, .slice none 0 0, .int .i64 0]) (t:=30) ?hr ?_;(case hd=>rfl);(case hg=>rfl);(case hr=>first|(go_simp;done)|(go_simp;rfl));intro gb258 hg w5 hbox hb;have n0_:=Aside0.mk (below_step (by repeat (first|(with_reducible first|exact HB.out|apply below_alloc|apply pw_below_drewN|apply below_drew1)|exact HB.out)) hb);have n1_:=Aside0.mk (hbox);have n2_:=Aside0.mk ((by rw [hg];exact (below_size (by repeat (first|(with_reducible first|exact HB.out|apply below_alloc|apply pw_below_drewN|apply below_drew1)|exact HB.out))):w.heap.size ≤ gb258));have n3_:=n2_;clear HB;have HB:=n0_;have BK258:=n1_;have GW258:=n2_;have GE258:=n3_;clear n0_ n1_ n2_ n3_;clear hb hbox hg;have hcz6_0:w5.cell? ⟨gb258,0,none⟩ = some (.slice none 0 0):=(blk_cell BK258.out 0).trans rfl;have hcz6_1:w5.cell? ⟨gb258,1,none⟩ = some (.slice none 0 0):=(blk_cell BK258.out 1).trans rfl;have hcz6_2:w5.cell? ⟨gb258,2,none⟩ = some (.int .i64 0):=(blk_cell BK258.out 2).trans rfl;have hfz6_0:=blk_frozen BK258.out 0;have hfz6_1:=blk_frozen BK258.out 1;have hfz6_2:=blk_frozen BK258.out 2))
     (try simp only [Act.put,List.setIfInBounds_toArray,List.set_cons_zero,List.set_cons_succ])
     go_cut [44] (fun v44 wc=>∃ (kq:Nat) (x44_3:Bool),v44 = .bool x44_3 ∧ Aside0 (spec_NoticeOk.j1 kq l0 x3_1 x4_1 x44_3 ((rd_T30 l0 x4_1).f0) ((rd_T30 l0 x4_1).f1) ((rd_T30 l0 x4_1).f2) = some r) ∧ Aside0 (kq ≤ k1) ∧ Aside0 (wc.heap[gb258]? = some (.cells #[(.slice A257_0 ((rd_T30 l0 x4_1).f0).length c257_0),(.slice A257_1 ((rd_T30 l0 x4_1).f1).length c257_1), .int .i64 ((rd_T30 l0 x4_1).f2)] 30 (0,0))) ∧ Aside0 (Below w.heap.size w wc))
     case first =>
      have H:=HC4.out
      clear HC4
      by_cases c7:(((rd_T30 l0 x4_1).f0).length:Int) = 0
      ·rw [if_pos c7] at H
       have c7b0:((((rd_T30 l0 x4_1).f0).length:Int) == 0) = true:=beq_iff_eq.mpr c7
       have c7b1:((((rd_T30 l0 x4_1).f0).length:Int) != 0) = false:=bne_eq_false_iff_eq.mpr c7
       clear c7
       (first|rw [c7b0]|(simp only [i64_w,i32_w];rw [c7b0])|skip)
       have H':=Aside0.mk H
       clear H
       have hcz8_0:w5.cell? ⟨gb258,0,none⟩ = some (.slice none 0 0):=(blk_cell BK258.out 0).trans rfl
       have hcz8_1:w5.cell? ⟨gb258,1,none⟩ = some (.slice none 0 0):=(blk_cell BK258.out 1).trans rfl
       have hcz8_2:w5.cell? ⟨gb258,2,none⟩ = some (.int .i64 0):=(blk_cell BK258.out 2).trans rfl
       have hfz8_0:=blk_frozen BK258.out 0
       have hfz8_1:=blk_frozen BK258.out 1
       have hfz8_2:=blk_frozen BK258.out 2
       go_wp2
       go_meet
       case rel=>exact ⟨_,(true),(by first|rfl|(simp;done)|(simp only [i64_w,i32_w];done)|(simp only [i64_w,i32_w];rfl)|(simp [*];done)|(simp [emp_bne,emp_beq];done)),H',⟨by have:=HK1.out;first|omega|exact Nat.le_refl _⟩,⟨by (with_reducible repeat (first|refine blk_drewN ?_ _|refine blk_drew ?_|refine blk_alloc ?_ _));refine blk_put (cs:=#[.slice A257_0 ((rd_T30 l0 x4_1).f0).length c257_0, .slice A257_1 ((rd_T30 l0 x4_1).f1).length c257_1, .int .i64 0]) ?_ 2 _ rfl;(with_reducible repeat (first|refine blk_drewN ?_ _|refine blk_drew ?_|refine blk_alloc ?_ _));refine blk_put (cs:=#[.slice A257_0 ((rd_T30 l0 x4_1).f0).length c257_0, .slice none 0 0, .int .i64 0]) ?_ 1 _ rfl;(with_reducible repeat (first|refine blk_drewN ?_ _|refine blk_drew ?_|refine blk_alloc ?_ _));refine blk_put (cs:=#[.slice none 0 0, .slice none 0 0, .int .i64 0]) ?_ 0 _ rfl;(with_reducible repeat (first|refine blk_drewN ?_ _|refine blk_drew ?_|refine blk_alloc ?_ _));exact BK258.out⟩,⟨by repeat (first|(with_reducible first|exact HB.out|apply below_alloc|apply pw_below_drewN|apply below_drew1|refine below_set ?_ GE258.out)|exact HB.out)⟩⟩
      ·rw [if_neg c7] at H
       have c7b0:((((rd_T30 l0 x4_1).f0).length:Int) == 0) = false:=beq_eq_false_iff_ne.mpr c7
       have c7b1:((((rd_T30 l0 x4_1).f0).length:Int) != 0) = true:=bne_iff_ne.mpr c7
       have c7b2:¬ (((rd_T30 l0 x4_1).f0) = []):=fun h_=>c7 (by rw [h_];rfl)
       (first|rw [c7b0]|(simp only [i64_w,i32_w];rw [c7b0])|skip)
       by_cases c9:(((rd_T30 l0 x4_1).f1).length:Int) = 0
       ·rw [if_pos c9] at H
        have c9b0:((((rd_T30 l0 x4_1).f1).length:Int) == 0) = true:=beq_iff_eq.mpr c9
        have c9b1:((((rd_T30 l0 x4_1).f1).length:Int) != 0) = false:=bne_eq_false_iff_eq.mpr c9
        clear c9
        by_cases c10:((rd_T30 l0 x4_1).f2) = 0
        ·rw [if_pos c10] at H
         have c10b0:(((rd_T30 l0 x4_1).f2) == 0) = true:=beq_iff_eq.mpr c10
         have c10b1:(((rd_T30 l0 x4_1).f2) != 0) = false:=bne_eq_false_iff_eq.mpr c10
         clear c10
         have H':=Aside0.mk H
         clear H
         have hcz11_0:w5.cell? ⟨gb258,0,none⟩ = some (.slice none 0 0):=(blk_cell BK258.out 0).trans rfl
         have hcz11_1:w5.cell? ⟨gb258,1,none⟩ = some (.slice none 0 0):=(blk_cell BK258.out 1).trans rfl
         have hcz11_2:w5.cell? ⟨gb258,2,none⟩ = some (.int .i64 0):=(blk_cell BK258.out 2).trans rfl
         have hfz11_0:=blk_frozen BK258.out 0
         have hfz11_1:=blk_frozen BK258.out 1
         have hfz11_2:=blk_frozen BK258.out 2
         go_wp2
         go_meet
         case rel=>exact ⟨_,(true),(by first|rfl|(simp;done)|(simp only [i64_w,i32_w];done)|(simp only [i64_w,i32_w];rfl)|(simp [*];done)|(simp [emp_bne,emp_beq];done)),H',⟨by have:=HK1.out;first|omega|exact Nat.le_refl _⟩,⟨by (with_reducible repeat (first|refine blk_drewN ?_ _|refine blk_drew ?_|refine blk_alloc ?_ _));refine blk_put (cs:=#[.slice A257_0 ((rd_T30 l0 x4_1).f0).length c257_0, .slice A257_1 ((rd_T30 l0 x4_1).f1).length c257_1, .int .i64 0]) ?_ 2 _ rfl;(with_reducible repeat (first|refine blk_drewN ?_ _|refine blk_drew ?_|refine blk_alloc ?_ _));refine blk_put (cs:=#[.slice A257_0 ((rd_T30 l0 x4_1).f0).length c257_0, .slice none 0 0, .int .i64 0]) ?_ 1 _ rfl;(with_reducible repeat (first|refine blk_drewN ?_ _|refine blk_drew ?_|refine blk_alloc ?_ _));refine blk_put (cs:=#[.slice none 0 0, .slice none 0 0, .int .i64 0]) ?_ 0 _ rfl;(with_reducible repeat (first|refine blk_drewN ?_ _|refine blk_drew ?_|refine blk_alloc ?_ _));exact BK258.out⟩,⟨by repeat (first|(with_reducible first|exact HB.out|apply below_alloc|apply pw_below_drewN|apply below_drew1|refine below_set ?_ GE258.out)|exact HB.out)⟩⟩
        ·rw [if_neg c10] at H
         have c10b0:(((rd_T30 l0 x4_1).f2) == 0) = false:=beq_eq_false_iff_ne.mpr c10
         have c10b1:(((rd_T30 l0 x4_1).f2) != 0) = true:=bne_iff_ne.mpr c10
         by_cases c12:(((rd_T30 l0 x4_1).f1).length:Int) > 6
         ·rw [if_pos c12] at H
          have c12b0:decide (6 < (((rd_T30 l0 x4_1).f1).length:Int)) = true:=decide_eq_true c12
          have c12b1:decide (6 < ((rd_T30 l0 x4_1).f1).length) = true:=decide_eq_true (by omega)
          clear c12
          have H':=Aside0.mk H
          clear H
          have hcz13_0:w5.cell? ⟨gb258,0,none⟩ = some (.slice none 0 0):=(blk_cell BK258.out 0).trans rfl
          have hcz13_1:w5.cell? ⟨gb258,1,none⟩ = some (.slice none 0 0):=(blk_cell BK258.out 1).trans rfl
          have hcz13_2:w5.cell? ⟨gb258,2,none⟩ = some (.int .i64 0):=(blk_cell BK258.out 2).trans rfl
          have hfz13_0:=blk_frozen BK258.out 0
          have hfz13_1:=blk_frozen BK258.out 1
          have hfz13_2:=blk_frozen BK258.out 2
          go_wp2
          go_meet
          case rel=>exact ⟨_,(true),(by first|rfl|(simp;done)|(simp only [i64_w,i32_w];done)|(simp only [i64_w,i32_w];rfl)|(simp [*];done)|(simp [emp_bne,emp_beq];done)),H',⟨by have:=HK1.out;first|omega|exact Nat.le_refl _⟩,⟨by (with_reducible repeat (first|refine blk_drewN ?_ _|refine blk_drew ?_|refine blk_alloc ?_ _));refine blk_put (cs:=#[.slice A257_0 ((rd_T30 l0 x4_1).f0).length c257_0, .slice A257_1 ((rd_T30 l0 x4_1).f1).length c257_1, .int .i64 0]) ?_ 2 _ rfl;(with_reducible repeat (first|refine blk_drewN ?_ _|refine blk_drew ?_|refine blk_alloc ?_ _));refine blk_put (cs:=#[.slice A257_0 ((rd_T30 l0 x4_1).f0).length c257_0, .slice none 0 0, .int .i64 0]) ?_ 1 _ rfl;(with_reducible repeat (first|refine blk_drewN ?_ _|refine blk_drew ?_|refine blk_alloc ?_ _));refine blk_put (cs:=#[.slice none 0 0, .slice none 0 0, .int .i64 0]) ?_ 0 _ rfl;(with_reducible repeat (first|refine blk_drewN ?_ _|refine blk_drew ?_|refine blk_alloc ?_ _));exact BK258.out⟩,⟨by repeat (first|(with_reducible first|exact HB.out|apply below_alloc|apply pw_below_drewN|apply below_drew1|refine below_set ?_ GE258.out)|exact HB.out)⟩⟩
         ·rw [if_neg c12] at H
          have c12b0:decide (6 < (((rd_T30 l0 x4_1).f1).length:Int)) = false:=decide_eq_false c12
          have c12b1:decide (6 < ((rd_T30 l0 x4_1).f1).length) = false:=decide_eq_false (by omega)
          clear c12
          replace H:=Option.bind_eq_some_iff.mp H
          obtain ⟨t259,A140,H⟩:=H
          replace H:(spec_NoticeOk.j1 k1 l0 x3_1 x4_1 (!t259) ((rd_T30 l0 x4_1).f0) ((rd_T30 l0 x4_1).f1) ((rd_T30 l0 x4_1).f2)) = some r:=H
          have A14:=Aside0.mk A140
          clear A140
          have H':=Aside0.mk H
          clear H
          have hcz15_0:w5.cell? ⟨gb258,0,none⟩ = some (.slice none 0 0):=(blk_cell BK258.out 0).trans rfl
          have hcz15_1:w5.cell? ⟨gb258,1,none⟩ = some (.slice none 0 0):=(blk_cell BK258.out 1).trans rfl
          have hcz15_2:w5.cell? ⟨gb258,2,none⟩ = some (.int .i64 0):=(blk_cell BK258.out 2).trans rfl
          have hfz15_0:=blk_frozen BK258.out 0
          have hfz15_1:=blk_frozen BK258.out 1
          have hfz15_2:=blk_frozen BK258.out 2
          go_wp2_with (first|(go_at_call 38;(with_reducible refine (spec_l6In.calls ((rd_T30 l0 x4_1).f2) 0 20 t259 _ A14.out).mono ?_);rintro e w' ⟨rfl,⟨nd,rfl⟩⟩))
          go_meet
          case rel=>exact ⟨_,(!t259),(by first|rfl|(simp;done)|(simp only [i64_w,i32_w];done)|(simp only [i64_w,i32_w];rfl)|(simp [*];done)|(simp [emp_bne,emp_beq];done)),H',⟨by have:=HK1.out;first|omega|exact Nat.le_refl _⟩,⟨by (with_reducible repeat (first|refine blk_drewN ?_ _|refine blk_drew ?_|refine blk_alloc ?_ _));refine blk_put (cs:=#[.slice A257_0 ((rd_T30 l0 x4_1).f0).length c257_0, .slice A257_1 ((rd_T30 l0 x4_1).f1).length c257_1, .int .i64 0]) ?_ 2 _ rfl;(with_reducible repeat (first|refine blk_drewN ?_ _|refine blk_drew ?_|refine blk_alloc ?_ _));refine blk_put (cs:=#[.slice A257_0 ((rd_T30 l0 x4_1).f0).length c257_0, .slice none 0 0, .int .i64 0]) ?_ 1 _ rfl;(with_reducible repeat (first|refine blk_drewN ?_ _|refine blk_drew ?_|refine blk_alloc ?_ _));refine blk_put (cs:=#[.slice none 0 0, .slice none 0 0, .int .i64 0]) ?_ 0 _ rfl;(with_reducible repeat (first|refine blk_drewN ?_ _|refine blk_drew ?_|refine blk_alloc ?_ _));exact BK258.out⟩,⟨by repeat (first|(with_reducible first|exact HB.out|apply below_alloc|apply pw_below_drewN|apply below_drew1|refine below_set ?_ GE258.out)|exact HB.out)⟩⟩
       ·rw [if_neg c9] at H
        have c9b0:((((rd_T30 l0 x4_1).f1).length:Int) == 0) = false:=beq_eq_false_iff_ne.mpr c9
        have c9b1:((((rd_T30 l0 x4_1).f1).length:Int) != 0) = true:=bne_iff_ne.mpr c9
        have c9b2:¬ (((rd_T30 l0 x4_1).f1) = []):=fun h_=>c9 (by rw [h_];rfl)
        by_cases c16:(((rd_T30 l0 x4_1).f1).length:Int) > 6
        ·rw [if_pos c16] at H
         have c16b0:decide (6 < (((rd_T30 l0 x4_1).f1).length:Int)) = true:=decide_eq_true c16
         have c16b1:decide (6 < ((rd_T30 l0 x4_1).f1).length) = true:=decide_eq_true (by omega)
         clear c16
         have H':=Aside0.mk H
         clear H
         have hcz17_0:w5.cell? ⟨gb258,0,none⟩ = some (.slice none 0 0):=(blk_cell BK258.out 0).trans rfl
         have hcz17_1:w5.cell? ⟨gb258,1,none⟩ = some (.slice none 0 0):=(blk_cell BK258.out 1).trans rfl
         have hcz17_2:w5.cell? ⟨gb258,2,none⟩ = some (.int .i64 0):=(blk_cell BK258.out 2).trans rfl
         have hfz17_0:=blk_frozen BK258.out 0
         have hfz17_1:=blk_frozen BK258.out 1
         have hfz17_2:=blk_frozen BK258.out 2
         go_wp2
         go_meet
         case rel=>exact ⟨_,(true),(by first|rfl|(simp;done)|(simp only [i64_w,i32_w];done)|(simp only [i64_w,i32_w];rfl)|(simp [*];done)|(simp [emp_bne,emp_beq];done)),H',⟨by have:=HK1.out;first|omega|exact Nat.le_refl _⟩,⟨by (with_reducible repeat (first|refine blk_drewN ?_ _|refine blk_drew ?_|refine blk_alloc ?_ _));refine blk_put (cs:=#[.slice A257_0 ((rd_T30 l0 x4_1).f0).length c257_0, .slice A257_1 ((rd_T30 l0 x4_1).f1).length c257_1, .int .i64 0]) ?_ 2 _ rfl;(with_reducible repeat (first|refine blk_drewN ?_ _|refine blk_drew ?_|refine blk_alloc ?_ _));refine blk_put (cs:=#[.slice A257_0 ((rd_T30 l0 x4_1).f0).length c257_0, .slice none 0 0, .int .i64 0]) ?_ 1 _ rfl;(with_reducible repeat (first|refine blk_drewN ?_ _|refine blk_drew ?_|refine blk_alloc ?_ _));refine blk_put (cs:=#[.slice none 0 0, .slice none 0 0, .int .i64 0]) ?_ 0 _ rfl;(with_reducible repeat (first|refine blk_drewN ?_ _|refine blk_drew ?_|refine blk_alloc ?_ _));exact BK258.out⟩,⟨by repeat (first|(with_reducible first|exact HB.out|apply below_alloc|apply pw_below_drewN|apply below_drew1|refine below_set ?_ GE258.out)|exact HB.out)⟩⟩
        ·rw [if_neg c16] at H
         have c16b0:decide (6 < (((rd_T30 l0 x4_1).f1).length:Int)) = false:=decide_eq_false c16
         have c16b1:decide (6 < ((rd_T30 l0 x4_1).f1).length) = false:=decide_eq_false (by omega)
         clear c16
         replace H:=Option.bind_eq_some_iff.mp H
         obtain ⟨t260,A180,H⟩:=H
         replace H:(spec_NoticeOk.j1 k1 l0 x3_1 x4_1 (!t260) ((rd_T30 l0 x4_1).f0) ((rd_T30 l0 x4_1).f1) ((rd_T30 l0 x4_1).f2)) = some r:=H
         have A18:=Aside0.mk A180
         clear A180
         have H':=Aside0.mk H
         clear H
         have hcz19_0:w5.cell? ⟨gb258,0,none⟩ = some (.slice none 0 0):=(blk_cell BK258.out 0).trans rfl
         have hcz19_1:w5.cell? ⟨gb258,1,none⟩ = some (.slice none 0 0):=(blk_cell BK258.out 1).trans rfl
         have hcz19_2:w5.cell? ⟨gb258,2,none⟩ = some (.int .i64 0):=(blk_cell BK258.out 2).trans rfl
         have hfz19_0:=blk_frozen BK258.out 0
         have hfz19_1:=blk_frozen BK258.out 1
         have hfz19_2:=blk_frozen BK258.out 2
         go_wp2_with (first|(go_at_call 38;(with_reducible refine (spec_l6In.calls ((rd_T30 l0 x4_1).f2) 0 20 t260 _ A18.out).mono ?_);rintro e w' ⟨rfl,⟨nd,rfl⟩⟩))
         go_meet
         case rel=>exact ⟨_,(!t260),(by first|rfl|(simp;done)|(simp only [i64_w,i32_w];done)|(simp only [i64_w,i32_w];rfl)|(simp [*];done)|(simp [emp_bne,emp_beq];done)),H',⟨by have:=HK1.out;first|omega|exact Nat.le_refl _⟩,⟨by (with_reducible repeat (first|refine blk_drewN ?_ _|refine blk_drew ?_|refine blk_alloc ?_ _));refine blk_put (cs:=#[.slice A257_0 ((rd_T30 l0 x4_1).f0).length c257_0, .slice A257_1 ((rd_T30 l0 x4_1).f1).length c257_1, .int .i64 0]) ?_ 2 _ rfl;(with_reducible repeat (first|refine blk_drewN ?_ _|refine blk_drew ?_|refine blk_alloc ?_ _));refine blk_put (cs:=#[.slice A257_0 ((rd_T30 l0 x4_1).f0).length c257_0, .slice none 0 0, .int .i64 0]) ?_ 1 _ rfl;(with_reducible repeat (first|refine blk_drewN ?_ _|refine blk_drew ?_|refine blk_alloc ?_ _));refine blk_put (cs:=#[.slice none 0 0, .slice none 0 0, .int .i64 0]) ?_ 0 _ rfl;(with_reducible repeat (first|refine blk_drewN ?_ _|refine blk_drew ?_|refine blk_alloc ?_ _));exact BK258.out⟩,⟨by repeat (first|(with_reducible first|exact HB.out|apply below_alloc|apply pw_below_drewN|apply below_drew1|refine below_set ?_ GE258.out)|exact HB.out)⟩⟩
     case rest =>
      clear HC4
      try clear c1
      try clear c2
      try clear c2b0
      try clear p2
      try clear q2
      try clear hx2
      try clear c3
      try clear c3b0
      try clear c7
      try clear c7b0
      try clear c7b1
      try clear c7b2
      try clear c9
      try clear c9b0
      try clear c9b1
      try clear c9b2
      try clear c10
      try clear c10b0
      try clear c10b1
      try clear c12
      try clear c12b0
      try clear c12b1
      try clear c16
      try clear c16b0
      try clear c16b1
      try clear hcz11_0
      try clear hcz11_1
      try clear hcz11_2
      try clear hcz13_0
      try clear hcz13_1
      try clear hcz13_2
      try clear hcz15_0
      try clear hcz15_1
      try clear hcz15_2
      try clear hcz17_0
      try clear hcz17_1
      try clear hcz17_2
      try clear hcz19_0
      try clear hcz19_1
      try clear hcz19_2
      try clear hcz6_0
      try clear hcz6_1
      try clear hcz6_2
      try clear hcz8_0
      try clear hcz8_1
      try clear hcz8_2
      try clear hfz11_0
      try clear hfz11_1
      try clear hfz11_2
      try clear hfz13_0
      try clear hfz13_1
      try clear hfz13_2
      try clear hfz15_0
      try clear hfz15_1
      try clear hfz15_2
      try clear hfz17_0
      try clear hfz17_1
      try clear hfz17_2
      try clear hfz19_0
      try clear hfz19_1
      try clear hfz19_2
      try clear hfz6_0
      try clear hfz6_1
      try clear hfz6_2
      try clear hfz8_0
      try clear hfz8_1
      try clear hfz8_2
      try clear hx257_0
      try clear hx257_1
      try clear hx257_2
      try clear p257
      try clear q257
      obtain ⟨kq,x44_3,rfl,HA,HJ3,BK258,HB⟩:=hcut
      cases kq with
      | zero=>exact absurd HA.out (by simp [spec_NoticeOk.j1])
      | succ kj3 =>
       have H:=HA.out
       clear HA
       simp only [spec_NoticeOk.j1] at H
       by_cases c20:x44_3 = true
       ·subst c20
        have H1:(some false) = some r:=by rw [if_pos rfl] at H;exact H
        clear H
        have H:=H1
        clear H1
        obtain rfl:=Option.some.inj H
        go_wp2
        go_ret
        exact ⟨by first|rfl|(simp <;> rfl)|(simp [*] <;> rfl),by repeat (first|(with_reducible first|exact HB.out|apply below_alloc|apply pw_below_drewN|apply below_drew1|refine below_set ?_ GE258.out)|exact HB.out)⟩
       ·replace c20:=Bool.eq_false_iff.mpr c20
        subst c20
        have H1:(spec_NoticeOk.l1 kj3 l0 x3_1 x4_1 0 ((rd_T30 l0 x4_1).f0) ((rd_T30 l0 x4_1).f1) ((rd_T30 l0 x4_1).f2)) = some r:=by rw [if_neg (show ¬ (false = true) by decide)] at H;exact H
        clear H
        have H:=H1
        clear H1
        have H':=Aside0.mk H
        clear H
        go_wp2
        go_loopg [6] kj3 (fun kq v6 w'=>∃ (x6_3:Int),v6 = .int .i64 x6_3 ∧ Aside0 (spec_NoticeOk.l1 kq l0 x3_1 x4_1 x6_3 ((rd_T30 l0 x4_1).f0) ((rd_T30 l0 x4_1).f1) ((rd_T30 l0 x4_1).f2) = some r) ∧ Aside0 (kq ≤ kj3) ∧ Aside0 (w'.heap[gb258]? = some (.cells #[(.slice A257_0 ((rd_T30 l0 x4_1).f0).length c257_0),(.slice A257_1 ((rd_T30 l0 x4_1).f1).length c257_1), .int .i64 ((rd_T30 l0 x4_1).f2)] 30 (0,0))) ∧ Aside0 (Below w.heap.size w w'))
        case atStart=>exact ⟨(0),(by first|rfl|(simp;done)|(simp only [i64_w,i32_w];done)|(simp only [i64_w,i32_w];rfl)|(simp [*];done)|(simp [emp_bne,emp_beq];done)),H',⟨Nat.le_refl _⟩,⟨by (with_reducible repeat (first|refine blk_drewN ?_ _|refine blk_drew ?_|refine blk_alloc ?_ _));exact BK258.out⟩,⟨by repeat (first|(with_reducible first|exact HB.out|apply below_alloc|apply pw_below_drewN|apply below_drew1|refine below_set ?_ GE258.out)|exact HB.out)⟩⟩
        case round =>
         clear H'
         try clear c1
         try clear c2
         try clear c2b0
         try clear p2
         try clear q2
         try clear hx2
         try clear c3
         try clear c3b0
         try clear c7
         try clear c7b0
         try clear c7b1
         try clear c7b2
         try clear c9
         try clear c9b0
         try clear c9b1
         try clear c9b2
         try clear c10
         try clear c10b0
         try clear c10b1
         try clear c12
         try clear c12b0
         try clear c12b1
         try clear c16
         try clear c16b0
         try clear c16b1
         try clear c20
         try clear hcz11_0
         try clear hcz11_1
         try clear hcz11_2
         try clear hcz13_0
         try clear hcz13_1
         try clear hcz13_2
         try clear hcz15_0
         try clear hcz15_1
         try clear hcz15_2
         try clear hcz17_0
         try clear hcz17_1
         try clear hcz17_2
         try clear hcz19_0
         try clear hcz19_1
         try clear hcz19_2
         try clear hcz6_0
         try clear hcz6_1
         try clear hcz6_2
         try clear hcz8_0
         try clear hcz8_1
         try clear hcz8_2
         try clear hfz11_0
         try clear hfz11_1
         try clear hfz11_2
         try clear hfz13_0
         try clear hfz13_1
         try clear hfz13_2
         try clear hfz15_0
         try clear hfz15_1
         try clear hfz15_2
         try clear hfz17_0
         try clear hfz17_1
         try clear hfz17_2
         try clear hfz19_0
         try clear hfz19_1
         try clear hfz19_2
         try clear hfz6_0
         try clear hfz6_1
         try clear hfz6_2
         try clear hfz8_0
         try clear hfz8_1
         try clear hfz8_2
         try clear hx257_0
         try clear hx257_1
         try clear hx257_2
         try clear p2
         try clear p257
         try clear q2
         try clear q257
         obtain ⟨x6_3,rfl,HA,HK3,BK258,HB⟩:=hrel
         cases gk with
         | zero=>exact absurd HA.out (by simp [spec_NoticeOk.l1])
         | succ k3 =>
          have H:=HA.out
          clear HA
          simp only [spec_NoticeOk.l1] at H
          by_cases c21:x6_3 < (((rd_T30 l0 x4_1).f0).length:Int)
          ·rw [if_pos c21] at H
           have c21b0:decide (x6_3 < (((rd_T30 l0 x4_1).f0).length:Int)) = true:=decide_eq_true c21
           clear c21
           by_cases c22:0 ≤ x6_3
           ·rw [if_pos c22] at H
            have c22b0:decide (0 ≤ x6_3) = true:=decide_eq_true c22
            clear c22
            by_cases c23:(rdOf ByteArray.empty ((rd_T30 l0 x4_1).f0) x6_3).toList = ([42]:List UInt8)
            ·rw [if_pos c23] at H
             have c23b0:((rdOf ByteArray.empty ((rd_T30 l0 x4_1).f0) x6_3).toList == ([42]:List UInt8)) = true:=beq_iff_eq.mpr c23
             have c23b1:((rdOf ByteArray.empty ((rd_T30 l0 x4_1).f0) x6_3).toList != ([42]:List UInt8)) = false:=bne_eq_false_iff_eq.mpr c23
             clear c23
             have H':=Aside0.mk H
             clear H
             have hcz24_0:wr.cell? ⟨gb258,0,none⟩ = some (.slice A257_0 ((rd_T30 l0 x4_1).f0).length c257_0):=(blk_cell BK258.out 0).trans rfl
             have hcz24_1:wr.cell? ⟨gb258,1,none⟩ = some (.slice A257_1 ((rd_T30 l0 x4_1).f1).length c257_1):=(blk_cell BK258.out 1).trans rfl
             have hcz24_2:wr.cell? ⟨gb258,2,none⟩ = some (.int .i64 ((rd_T30 l0 x4_1).f2)):=(blk_cell BK258.out 2).trans rfl
             have hfz24_0:=blk_frozen BK258.out 0
             have hfz24_1:=blk_frozen BK258.out 1
             have hfz24_2:=blk_frozen BK258.out 2
             have p261:0 ≤ (x6_3:Int):=of_decide_eq_true (by first|(with_reducible assumption)|assumption)
             have q261:x6_3 < (((rd_T30 l0 x4_1).f0).length:Int):=of_decide_eq_true (by first|(with_reducible assumption)|assumption)
             obtain ⟨ad261,e261,hx261_0⟩:=Kd.at_string HR257_0.out x6_3 p261 q261
             cases e261
             replace hx261_0:=(HB.out.cell (World.block_lt_of_cell? w _ hx261_0)).trans hx261_0
             replace p261:=eq_true p261
             replace q261:=eq_true q261
             go_wp2
             go_roundg k3
             case measure=>have:=HK1.out;have:=HJ3.out;have:=HK3.out;omega
             case rel=>exact ⟨(wrap64 (x6_3 + 1)),(by first|rfl|(simp;done)|(simp only [i64_w,i32_w];done)|(simp only [i64_w,i32_w];rfl)|(simp [*];done)|(simp [emp_bne,emp_beq];done)),H',⟨by have:=HK1.out;have:=HJ3.out;have:=HK3.out;omega⟩,⟨by (with_reducible repeat (first|refine blk_drewN ?_ _|refine blk_drew ?_|refine blk_alloc ?_ _));exact BK258.out⟩,⟨by repeat (first|(with_reducible first|exact HB.out|apply below_alloc|apply pw_below_drewN|apply below_drew1|refine below_set ?_ GE258.out)|exact HB.out)⟩⟩
            ·rw [if_neg c23] at H
             have c23b0:((rdOf ByteArray.empty ((rd_T30 l0 x4_1).f0) x6_3).toList == ([42]:List UInt8)) = false:=beq_eq_false_iff_ne.mpr c23
             have c23b1:((rdOf ByteArray.empty ((rd_T30 l0 x4_1).f0) x6_3).toList != ([42]:List UInt8)) = true:=bne_iff_ne.mpr c23
             replace H:=Option.bind_eq_some_iff.mp H
             obtain ⟨t263,A250,H⟩:=H
             replace H:(if t263 = true then (spec_NoticeOk.l1 k3 l0 x3_1 x4_1 (wrap64 (x6_3 + 1)) ((rd_T30 l0 x4_1).f0) ((rd_T30 l0 x4_1).f1) ((rd_T30 l0 x4_1).f2)) else (some false)) = some r:=H
             have A25:=Aside0.mk A250
             clear A250
             by_cases c26:t263 = true
             ·subst c26
              have H1:(spec_NoticeOk.l1 k3 l0 x3_1 x4_1 (wrap64 (x6_3 + 1)) ((rd_T30 l0 x4_1).f0) ((rd_T30 l0 x4_1).f1) ((rd_T30 l0 x4_1).f2)) = some r:=by rw [if_pos rfl] at H;exact H
              clear H
              have H:=H1
              clear H1
              have H':=Aside0.mk H
              clear H
              have hcz27_0:wr.cell? ⟨gb258,0,none⟩ = some (.slice A257_0 ((rd_T30 l0 x4_1).f0).length c257_0):=(blk_cell BK258.out 0).trans rfl
              have hcz27_1:wr.cell? ⟨gb258,1,none⟩ = some (.slice A257_1 ((rd_T30 l0 x4_1).f1).length c257_1):=(blk_cell BK258.out 1).trans rfl
              have hcz27_2:wr.cell? ⟨gb258,2,none⟩ = some (.int .i64 ((rd_T30 l0 x4_1).f2)):=(blk_cell BK258.out 2).trans rfl
              have hfz27_0:=blk_frozen BK258.out 0
              have hfz27_1:=blk_frozen BK258.out 1
              have hfz27_2:=blk_frozen BK258.out 2
              have p261:0 ≤ (x6_3:Int):=of_decide_eq_true (by first|(with_reducible assumption)|assumption)
              have q261:x6_3 < (((rd_T30 l0 x4_1).f0).length:Int):=of_decide_eq_true (by first|(with_reducible assumption)|assumption)
              obtain ⟨ad261,e261,hx261_0⟩:=Kd.at_string HR257_0.out x6_3 p261 q261
              cases e261
              replace hx261_0:=(HB.out.cell (World.block_lt_of_cell? w _ hx261_0)).trans hx261_0
              replace p261:=eq_true p261
              replace q261:=eq_true q261
              have p262:0 ≤ (x6_3:Int):=of_decide_eq_true (by first|(with_reducible assumption)|assumption)
              have q262:x6_3 < (((rd_T30 l0 x4_1).f0).length:Int):=of_decide_eq_true (by first|(with_reducible assumption)|assumption)
              obtain ⟨ad262,e262,hx262_0⟩:=Kd.at_string HR257_0.out x6_3 p262 q262
              obtain rfl:ad261 = ad262:=(by injection e262)
              replace hx262_0:=(HB.out.cell (World.block_lt_of_cell? w _ hx262_0)).trans hx262_0
              replace p262:=eq_true p262
              replace q262:=eq_true q262
              go_wp2_with (first|(go_at_call 39;(with_reducible refine (spec_l2Name.calls k3 (rdOf ByteArray.empty ((rd_T30 l0 x4_1).f0) x6_3) true _ A25.out).mono ?_);rintro e w' ⟨rfl,⟨nd,rfl⟩⟩))
              go_roundg k3
              case measure=>have:=HK1.out;have:=HJ3.out;have:=HK3.out;omega
              case rel=>exact ⟨(wrap64 (x6_3 + 1)),(by first|rfl|(simp;done)|(simp only [i64_w,i32_w];done)|(simp only [i64_w,i32_w];rfl)|(simp [*];done)|(simp [emp_bne,emp_beq];done)),H',⟨by have:=HK1.out;have:=HJ3.out;have:=HK3.out;omega⟩,⟨by (with_reducible repeat (first|refine blk_drewN ?_ _|refine blk_drew ?_|refine blk_alloc ?_ _));exact BK258.out⟩,⟨by repeat (first|(with_reducible first|exact HB.out|apply below_alloc|apply pw_below_drewN|apply below_drew1|refine below_set ?_ GE258.out)|exact HB.out)⟩⟩
             ·replace c26:=Bool.eq_false_iff.mpr c26
              subst c26
              have H1:(some false) = some r:=by rw [if_neg (show ¬ (false = true) by decide)] at H;exact H
              clear H
              have H:=H1
              clear H1
              obtain rfl:=Option.some.inj H
              have hcz28_0:wr.cell? ⟨gb258,0,none⟩ = some (.slice A257_0 ((rd_T30 l0 x4_1).f0).length c257_0):=(blk_cell BK258.out 0).trans rfl
              have hcz28_1:wr.cell? ⟨gb258,1,none⟩ = some (.slice A257_1 ((rd_T30 l0 x4_1).f1).length c257_1):=(blk_cell BK258.out 1).trans rfl
              have hcz28_2:wr.cell? ⟨gb258,2,none⟩ = some (.int .i64 ((rd_T30 l0 x4_1).f2)):=(blk_cell BK258.out 2).trans rfl
              have hfz28_0:=blk_frozen BK258.out 0
              have hfz28_1:=blk_frozen BK258.out 1
              have hfz28_2:=blk_frozen BK258.out 2
              have p261:0 ≤ (x6_3:Int):=of_decide_eq_true (by first|(with_reducible assumption)|assumption)
              have q261:x6_3 < (((rd_T30 l0 x4_1).f0).length:Int):=of_decide_eq_true (by first|(with_reducible assumption)|assumption)
              obtain ⟨ad261,e261,hx261_0⟩:=Kd.at_string HR257_0.out x6_3 p261 q261
              cases e261
              replace hx261_0:=(HB.out.cell (World.block_lt_of_cell? w _ hx261_0)).trans hx261_0
              replace p261:=eq_true p261
              replace q261:=eq_true q261
              have p262:0 ≤ (x6_3:Int):=of_decide_eq_true (by first|(with_reducible assumption)|assumption)
              have q262:x6_3 < (((rd_T30 l0 x4_1).f0).length:Int):=of_decide_eq_true (by first|(with_reducible assumption)|assumption)
              obtain ⟨ad262,e262,hx262_0⟩:=Kd.at_string HR257_0.out x6_3 p262 q262
              obtain rfl:ad261 = ad262:=(by injection e262)
              replace hx262_0:=(HB.out.cell (World.block_lt_of_cell? w _ hx262_0)).trans hx262_0
              replace p262:=eq_true p262
              replace q262:=eq_true q262
              go_wp2_with (first|(go_at_call 39;(with_reducible refine (spec_l2Name.calls k3 (rdOf ByteArray.empty ((rd_T30 l0 x4_1).f0) x6_3) false _ A25.out).mono ?_);rintro e w' ⟨rfl,⟨nd,rfl⟩⟩))
              go_ret
              exact ⟨by first|rfl|(simp <;> rfl)|(simp [*] <;> rfl),by repeat (first|(with_reducible first|exact HB.out|apply below_alloc|apply pw_below_drewN|apply below_drew1|refine below_set ?_ GE258.out)|exact HB.out)⟩
           ·rw [if_neg c22] at H
            exact absurd H (by simp)
          ·rw [if_neg c21] at H
           have c21b0:decide (x6_3 < (((rd_T30 l0 x4_1).f0).length:Int)) = false:=decide_eq_false c21
           clear c21
           have H':=Aside0.mk H
           clear H
           have hcz29_0:wr.cell? ⟨gb258,0,none⟩ = some (.slice A257_0 ((rd_T30 l0 x4_1).f0).length c257_0):=(blk_cell BK258.out 0).trans rfl
           have hcz29_1:wr.cell? ⟨gb258,1,none⟩ = some (.slice A257_1 ((rd_T30 l0 x4_1).f1).length c257_1):=(blk_cell BK258.out 1).trans rfl
           have hcz29_2:wr.cell? ⟨gb258,2,none⟩ = some (.int .i64 ((rd_T30 l0 x4_1).f2)):=(blk_cell BK258.out 2).trans rfl
           have hfz29_0:=blk_frozen BK258.out 0
           have hfz29_1:=blk_frozen BK258.out 1
           have hfz29_2:=blk_frozen BK258.out 2
           go_wp2
           go_loopg [7] k3 (fun kq v7 w'=>∃ (x7_4:Int),v7 = .int .i64 x7_4 ∧ Aside0 (spec_NoticeOk.l2 kq l0 x3_1 x4_1 x7_4 ((rd_T30 l0 x4_1).f0) ((rd_T30 l0 x4_1).f1) ((rd_T30 l0 x4_1).f2) = some r) ∧ Aside0 (kq ≤ k3) ∧ Aside0 (w'.heap[gb258]? = some (.cells #[(.slice A257_0 ((rd_T30 l0 x4_1).f0).length c257_0),(.slice A257_1 ((rd_T30 l0 x4_1).f1).length c257_1), .int .i64 ((rd_T30 l0 x4_1).f2)] 30 (0,0))) ∧ Aside0 (Below w.heap.size w w'))
           case atStart=>exact ⟨(0),(by first|rfl|(simp;done)|(simp only [i64_w,i32_w];done)|(simp only [i64_w,i32_w];rfl)|(simp [*];done)|(simp [emp_bne,emp_beq];done)),H',⟨Nat.le_refl _⟩,⟨by (with_reducible repeat (first|refine blk_drewN ?_ _|refine blk_drew ?_|refine blk_alloc ?_ _));exact BK258.out⟩,⟨by repeat (first|(with_reducible first|exact HB.out|apply below_alloc|apply pw_below_drewN|apply below_drew1|refine below_set ?_ GE258.out)|exact HB.out)⟩⟩
           case round =>
            clear H'
            try clear c1
            try clear c2
            try clear c2b0
            try clear p2
            try clear q2
            try clear hx2
            try clear c3
            try clear c3b0
            try clear p6
            try clear c7
            try clear c7b0
            try clear c7b1
            try clear c7b2
            try clear c9
            try clear c9b0
            try clear c9b1
            try clear c9b2
            try clear c10
            try clear c10b0
            try clear c10b1
            try clear c12
            try clear c12b0
            try clear c12b1
            try clear c16
            try clear c16b0
            try clear c16b1
            try clear c20
            try clear c21
            try clear c21b0
            try clear c22
            try clear c22b0
            try clear c23
            try clear c23b0
            try clear c23b1
            try clear c25
            try clear p25
            try clear q25
            try clear hx25
            try clear c26
            try clear p26
            try clear q26
            try clear hx26
            try clear hcz11_0
            try clear hcz11_1
            try clear hcz11_2
            try clear hcz13_0
            try clear hcz13_1
            try clear hcz13_2
            try clear hcz15_0
            try clear hcz15_1
            try clear hcz15_2
            try clear hcz17_0
            try clear hcz17_1
            try clear hcz17_2
            try clear hcz19_0
            try clear hcz19_1
            try clear hcz19_2
            try clear hcz24_0
            try clear hcz24_1
            try clear hcz24_2
            try clear hcz27_0
            try clear hcz27_1
            try clear hcz27_2
            try clear hcz28_0
            try clear hcz28_1
            try clear hcz28_2
            try clear hcz29_0
            try clear hcz29_1
            try clear hcz29_2
            try clear hcz6_0
            try clear hcz6_1
            try clear hcz6_2
            try clear hcz8_0
            try clear hcz8_1
            try clear hcz8_2
            try clear hfz11_0
            try clear hfz11_1
            try clear hfz11_2
            try clear hfz13_0
            try clear hfz13_1
            try clear hfz13_2
            try clear hfz15_0
            try clear hfz15_1
            try clear hfz15_2
            try clear hfz17_0
            try clear hfz17_1
            try clear hfz17_2
            try clear hfz19_0
            try clear hfz19_1
            try clear hfz19_2
            try clear hfz24_0
            try clear hfz24_1
            try clear hfz24_2
            try clear hfz27_0
            try clear hfz27_1
            try clear hfz27_2
            try clear hfz28_0
            try clear hfz28_1
            try clear hfz28_2
            try clear hfz29_0
            try clear hfz29_1
            try clear hfz29_2
            try clear hfz6_0
            try clear hfz6_1
            try clear hfz6_2
            try clear hfz8_0
            try clear hfz8_1
            try clear hfz8_2
            try clear hx257_0
            try clear hx257_1
            try clear hx257_2
            try clear hx261_0
            try clear hx262_0
            try clear p2
            try clear p257
            try clear p261
            try clear p262
            try clear q2
            try clear q257
            try clear q261
            try clear q262
            obtain ⟨x7_4,rfl,HA,HK4,BK258,HB⟩:=hrel
            cases gk with
            | zero=>exact absurd HA.out (by simp [spec_NoticeOk.l2])
            | succ k4 =>
             have H:=HA.out
             clear HA
             simp only [spec_NoticeOk.l2] at H
             by_cases c30:x7_4 < (((rd_T30 l0 x4_1).f1).length:Int)
             ·rw [if_pos c30] at H
              have c30b0:decide (x7_4 < (((rd_T30 l0 x4_1).f1).length:Int)) = true:=decide_eq_true c30
              clear c30
              by_cases c31:0 ≤ x7_4
              ·rw [if_pos c31] at H
               have c31b0:decide (0 ≤ x7_4) = true:=decide_eq_true c31
               clear c31
               replace H:=Option.bind_eq_some_iff.mp H
               obtain ⟨t265,A320,H⟩:=H
               replace H:(if t265 = true then (spec_NoticeOk.l2 k4 l0 x3_1 x4_1 (wrap64 (x7_4 + 1)) ((rd_T30 l0 x4_1).f0) ((rd_T30 l0 x4_1).f1) ((rd_T30 l0 x4_1).f2)) else (some false)) = some r:=H
               have A32:=Aside0.mk A320
               clear A320
               by_cases c33:t265 = true
               ·subst c33
                have H1:(spec_NoticeOk.l2 k4 l0 x3_1 x4_1 (wrap64 (x7_4 + 1)) ((rd_T30 l0 x4_1).f0) ((rd_T30 l0 x4_1).f1) ((rd_T30 l0 x4_1).f2)) = some r:=by rw [if_pos rfl] at H;exact H
                clear H
                have H:=H1
                clear H1
                have H':=Aside0.mk H
                clear H
                have hcz34_0:wr.cell? ⟨gb258,0,none⟩ = some (.slice A257_0 ((rd_T30 l0 x4_1).f0).length c257_0):=(blk_cell BK258.out 0).trans rfl
                have hcz34_1:wr.cell? ⟨gb258,1,none⟩ = some (.slice A257_1 ((rd_T30 l0 x4_1).f1).length c257_1):=(blk_cell BK258.out 1).trans rfl
                have hcz34_2:wr.cell? ⟨gb258,2,none⟩ = some (.int .i64 ((rd_T30 l0 x4_1).f2)):=(blk_cell BK258.out 2).trans rfl
                have hfz34_0:=blk_frozen BK258.out 0
                have hfz34_1:=blk_frozen BK258.out 1
                have hfz34_2:=blk_frozen BK258.out 2
                have p264:0 ≤ (x7_4:Int):=of_decide_eq_true (by first|(with_reducible assumption)|assumption)
                have q264:x7_4 < (((rd_T30 l0 x4_1).f1).length:Int):=of_decide_eq_true (by first|(with_reducible assumption)|assumption)
                obtain ⟨ad264,e264,hx264_0,hx264_1⟩:=at_T57 HR257_1.out x7_4 p264 q264
                cases e264
                replace hx264_0:=(HB.out.cell (World.block_lt_of_cell? w _ hx264_0)).trans hx264_0
                replace hx264_1:=(HB.out.cell (World.block_lt_of_cell? w _ hx264_1)).trans hx264_1
                replace p264:=eq_true p264
                replace q264:=eq_true q264
                go_wp2_with (first|((with_reducible refine gate_callee (f:=40) rfl ?_);refine goesL_ (some 80) rfl rfl Try.func40 (by kernel_rfl) rfl #[.string ((rd_T57 ((rd_T30 l0 x4_1).f1) x7_4).f1)] rfl (by (try simp only [List.map_toArray,List.map_cons,List.map_nil]);first|done|rfl|(simp only [List.length_drop,List.length_take];rfl)) ?_;(with_reducible refine (spec_RuleOk.calls k4 ((rd_T57 ((rd_T30 l0 x4_1).f1) x7_4).f1) true _ A32.out).mono ?_);rintro e w' ⟨rfl,⟨nd,rfl⟩⟩;refine ⟨_,rfl,?_⟩))
                go_roundg k4
                case measure=>have:=HK1.out;have:=HJ3.out;have:=HK3.out;have:=HK4.out;omega
                case rel=>exact ⟨(wrap64 (x7_4 + 1)),(by first|rfl|(simp;done)|(simp only [i64_w,i32_w];done)|(simp only [i64_w,i32_w];rfl)|(simp [*];done)|(simp [emp_bne,emp_beq];done)),H',⟨by have:=HK1.out;have:=HJ3.out;have:=HK3.out;have:=HK4.out;omega⟩,⟨by (with_reducible repeat (first|refine blk_drewN ?_ _|refine blk_drew ?_|refine blk_alloc ?_ _));exact BK258.out⟩,⟨by repeat (first|(with_reducible first|exact HB.out|apply below_alloc|apply pw_below_drewN|apply below_drew1|refine below_set ?_ GE258.out)|exact HB.out)⟩⟩
               ·replace c33:=Bool.eq_false_iff.mpr c33
                subst c33
                have H1:(some false) = some r:=by rw [if_neg (show ¬ (false = true) by decide)] at H;exact H
                clear H
                have H:=H1
                clear H1
                obtain rfl:=Option.some.inj H
                have hcz35_0:wr.cell? ⟨gb258,0,none⟩ = some (.slice A257_0 ((rd_T30 l0 x4_1).f0).length c257_0):=(blk_cell BK258.out 0).trans rfl
                have hcz35_1:wr.cell? ⟨gb258,1,none⟩ = some (.slice A257_1 ((rd_T30 l0 x4_1).f1).length c257_1):=(blk_cell BK258.out 1).trans rfl
                have hcz35_2:wr.cell? ⟨gb258,2,none⟩ = some (.int .i64 ((rd_T30 l0 x4_1).f2)):=(blk_cell BK258.out 2).trans rfl
                have hfz35_0:=blk_frozen BK258.out 0
                have hfz35_1:=blk_frozen BK258.out 1
                have hfz35_2:=blk_frozen BK258.out 2
                have p264:0 ≤ (x7_4:Int):=of_decide_eq_true (by first|(with_reducible assumption)|assumption)
                have q264:x7_4 < (((rd_T30 l0 x4_1).f1).length:Int):=of_decide_eq_true (by first|(with_reducible assumption)|assumption)
                obtain ⟨ad264,e264,hx264_0,hx264_1⟩:=at_T57 HR257_1.out x7_4 p264 q264
                cases e264
                replace hx264_0:=(HB.out.cell (World.block_lt_of_cell? w _ hx264_0)).trans hx264_0
                replace hx264_1:=(HB.out.cell (World.block_lt_of_cell? w _ hx264_1)).trans hx264_1
                replace p264:=eq_true p264
                replace q264:=eq_true q264
                go_wp2_with (first|((with_reducible refine gate_callee (f:=40) rfl ?_);refine goesL_ (some 80) rfl rfl Try.func40 (by kernel_rfl) rfl #[.string ((rd_T57 ((rd_T30 l0 x4_1).f1) x7_4).f1)] rfl (by (try simp only [List.map_toArray,List.map_cons,List.map_nil]);first|done|rfl|(simp only [List.length_drop,List.length_take];rfl)) ?_;(with_reducible refine (spec_RuleOk.calls k4 ((rd_T57 ((rd_T30 l0 x4_1).f1) x7_4).f1) false _ A32.out).mono ?_);rintro e w' ⟨rfl,⟨nd,rfl⟩⟩;refine ⟨_,rfl,?_⟩))
                go_ret
                exact ⟨by first|rfl|(simp <;> rfl)|(simp [*] <;> rfl),by repeat (first|(with_reducible first|exact HB.out|apply below_alloc|apply pw_below_drewN|apply below_drew1|refine below_set ?_ GE258.out)|exact HB.out)⟩
              ·rw [if_neg c31] at H
               exact absurd H (by simp)
             ·rw [if_neg c30] at H
              have c30b0:decide (x7_4 < (((rd_T30 l0 x4_1).f1).length:Int)) = false:=decide_eq_false c30
              clear c30
              have H':=Aside0.mk H
              clear H
              have hcz36_0:wr.cell? ⟨gb258,0,none⟩ = some (.slice A257_0 ((rd_T30 l0 x4_1).f0).length c257_0):=(blk_cell BK258.out 0).trans rfl
              have hcz36_1:wr.cell? ⟨gb258,1,none⟩ = some (.slice A257_1 ((rd_T30 l0 x4_1).f1).length c257_1):=(blk_cell BK258.out 1).trans rfl
              have hcz36_2:wr.cell? ⟨gb258,2,none⟩ = some (.int .i64 ((rd_T30 l0 x4_1).f2)):=(blk_cell BK258.out 2).trans rfl
              have hfz36_0:=blk_frozen BK258.out 0
              have hfz36_1:=blk_frozen BK258.out 1
              have hfz36_2:=blk_frozen BK258.out 2
              go_wp2
              go_roundg k4
              case measure=>have:=HK1.out;have:=HJ3.out;have:=HK3.out;have:=HK4.out;omega
              case rel=>exact ⟨(wrap64 ((wrap64 ((wrap64 (x3_1 + (((rd_T30 l0 x4_1).f0).length:Int))) + (((rd_T30 l0 x4_1).f1).length:Int))) + 1)),(wrap64 (x4_1 + 1)),(by first|rfl|(simp;done)|(simp only [i64_w,i32_w];done)|(simp only [i64_w,i32_w];rfl)|(simp [*];done)|(simp [emp_bne,emp_beq];done)),(by first|rfl|(simp;done)|(simp only [i64_w,i32_w];done)|(simp only [i64_w,i32_w];rfl)|(simp [*];done)|(simp [emp_bne,emp_beq];done)),H',⟨by have:=HK1.out;have:=HJ3.out;have:=HK3.out;have:=HK4.out;omega⟩,⟨by repeat (first|(with_reducible first|exact HB.out|apply below_alloc|apply pw_below_drewN|apply below_drew1|refine below_set ?_ GE258.out)|exact HB.out)⟩⟩
    ·rw [if_neg c3] at H
     exact absurd H (by simp)
   ·rw [if_neg c2] at H
    have c2b0:decide (x4_1 < (l0.length:Int)) = false:=decide_eq_false c2
    clear c2
    obtain rfl:=Option.some.inj H
    go_wp2
    go_ret
    exact ⟨by first|rfl|(simp <;> rfl)|(simp [*] <;> rfl),by repeat (first|(with_reducible first|exact HB.out|apply below_alloc|apply pw_below_drewN|apply below_drew1)|exact HB.out)⟩

end Go.Proofs.Ytheakfegchndcaa.P
