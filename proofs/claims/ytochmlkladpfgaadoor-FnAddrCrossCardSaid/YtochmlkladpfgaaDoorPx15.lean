-- Written by a program of this session (patch_print.py over the kit's print; given texts in wip/given).
import Derived.Test.YtochmlkladpfgaaDoorPx0
namespace Go.Proofs.YtochmlkladpfgaaDoor.P
open Go.RowKit Go.Proofs.YtochmlkladpfgaaDoorW.PrintWords Go.Proofs.YtochmlkladpfgaaDoorW.PrintLast Go.Proofs.YtochmlkladpfgaaDoorW.PrintMore
attribute [local go_sem] max2_int min2_int max_two min_two max_three min_three max_four min_four   -- for this text's walks alone
set_option linter.unusedVariables false
set_option linter.unusedSimpArgs false
set_option maxHeartbeats 8000000
set_option maxRecDepth 100000

/-! ### laws_lpTexts: function 31 -/
def laws_lpTexts.l0:Nat → List ByteArray → List ByteArray → Int → Option (Bool)
 | 0,_,_,_=>none
 | k + 1,x0,x1,x5=>if x5 < (x0.length:Int) then (if 0 ≤ x5 then (if x5 < (x1.length:Int) then (if (rdOf ByteArray.empty x0 x5).toList = (rdOf ByteArray.empty x1 x5).toList then (laws_lpTexts.l0 k x0 x1 (wrap64 (x5 + 1))) else (some false)) else (none)) else (none)) else (some true)
def laws_lpTexts.f (k:Nat) (l0:List ByteArray) (l1:List ByteArray):Option (Bool):=if (l0.length:Int) = (l1.length:Int) then (laws_lpTexts.l0 k l0 l1 0) else (some false)
theorem laws_lpTexts.mono_l:∀ k,(∀ y0 y1 y2,LeO (laws_lpTexts.l0 k y0 y1 y2) (laws_lpTexts.l0 (k + 1) y0 y1 y2))
 | 0=>fun _ _ _ r h=>by simp [laws_lpTexts.l0] at h
 | k + 1=>by
  have ih0:=laws_lpTexts.mono_l k
  ·intro y0 y1 y2
   unfold laws_lpTexts.l0
   repeat' first
   | (with_reducible exact ih0 _ _ _)
   | (with_reducible exact LeO.refl _)
   | (with_reducible exact LeO.none _)
   | (with_reducible refine LeO.ite ?_ ?_)
   | (with_reducible refine LeO.bind ?_ (fun _=>?_))
   | exact ih0 _ _ _
   | exact LeO.none _
   | refine LeO.ite ?_ ?_
   | refine LeO.bind ?_ (fun _=>?_)
theorem laws_lpTexts.mono:∀ a0 a1 k,LeO (laws_lpTexts.f k a0 a1) (laws_lpTexts.f (k + 1) a0 a1):=by
 intro a0 a1 k
 have ih0:=laws_lpTexts.mono_l k
 unfold laws_lpTexts.f
 repeat' first
   | (with_reducible exact ih0 _ _ _)
   | (with_reducible exact LeO.refl _)
   | (with_reducible exact LeO.none _)
   | (with_reducible refine LeO.ite ?_ ?_)
   | (with_reducible refine LeO.bind ?_ (fun _=>?_))
   | exact ih0 _ _ _
   | exact LeO.none _
   | refine LeO.ite ?_ ?_
   | refine LeO.bind ?_ (fun _=>?_)
theorem laws_lpTexts.calls (k:Nat) (A0:Option Addr) (c0:Nat) (l0:List ByteArray) (A1:Option Addr) (c1:Nat) (l1:List ByteArray) (r:Bool) (w:World) (hr0:Kd.C Kd.string w A0 l0.length l0) (hc0:l0.length ≤ c0) (hr1:Kd.C Kd.string w A1 l1.length l1) (hc1:l1.length ≤ c1) (h:laws_lpTexts.f k l0 l1 = some r) :
  Calls Tryd.prog 31 #[.slice A0 l0.length c0,.slice A1 l1.length c1] w fun e w'=>e = .returned (.bool r) ∧ Drawn0 w w':=by
 have HR0:=Aside0.mk hr0
 have HC0:=Aside0.mk hc0
 clear hr0 hc0
 have HR1:=Aside0.mk hr1
 have HC1:=Aside0.mk hc1
 clear hr1 hc1
 have H:(if (l0.length:Int) = (l1.length:Int) then (laws_lpTexts.l0 k l0 l1 0) else (some false)) = some r:=h
 clear h
 by_cases c3:(l0.length:Int) = (l1.length:Int)
 ·rw [if_pos c3] at H
  have c3b0:((l0.length:Int) == (l1.length:Int)) = true:=beq_iff_eq.mpr c3
  have c3b1:((l0.length:Int) != (l1.length:Int)) = false:=bne_eq_false_iff_eq.mpr c3
  have c3b2:(l0.length == l1.length) = true:=by first|simpa using c3|(simp at c3 ⊢;omega)
  clear c3
  have H':=Aside0.mk H
  clear H
  go_enter Tryd.func31,Tryd.ntmps31
  go_wp2
  repeat (go_quiet (fail);try go_wp2)
  go_loopg [5] k (fun kq v5 w'=>∃ (x5_1:Int),v5 = .int .i64 x5_1 ∧ Aside0 (laws_lpTexts.l0 kq l0 l1 x5_1 = some r) ∧ Aside0 (kq ≤ k) ∧ Drawn0 w w')
  case atStart=>exact ⟨(0),(by first|rfl|(simp;done)|(simp only [i64_w,i32_w];done)|(simp only [i64_w,i32_w];rfl)|(simp [*];done)|(simp [emp_bne,emp_beq];done)),H',⟨Nat.le_refl _⟩,by repeat (first|exact Drawn0.refl _|apply Drawn0.step)⟩
  case round =>
   clear H'
   try clear c1
   try clear p2
   try clear c3
   try clear c3b0
   try clear c3b1
   try clear c3b2
   obtain ⟨x5_1,rfl,HA,HK1,⟨m1,rfl⟩⟩:=hrel
   cases gk with
   | zero=>exact absurd HA.out (by simp [laws_lpTexts.l0])
   | succ k1 =>
    have H:=HA.out
    clear HA
    simp only [laws_lpTexts.l0] at H
    by_cases c4:x5_1 < (l0.length:Int)
    ·rw [if_pos c4] at H
     have c4b0:decide (x5_1 < (l0.length:Int)) = true:=decide_eq_true c4
     clear c4
     by_cases c5:0 ≤ x5_1
     ·rw [if_pos c5] at H
      have c5b0:decide (0 ≤ x5_1) = true:=decide_eq_true c5
      clear c5
      by_cases c6:x5_1 < (l1.length:Int)
      ·rw [if_pos c6] at H
       have c6b0:decide (x5_1 < (l1.length:Int)) = true:=decide_eq_true c6
       clear c6
       by_cases c7:(rdOf ByteArray.empty l0 x5_1).toList = (rdOf ByteArray.empty l1 x5_1).toList
       ·rw [if_pos c7] at H
        have c7b0:((rdOf ByteArray.empty l0 x5_1).toList == (rdOf ByteArray.empty l1 x5_1).toList) = true:=beq_iff_eq.mpr c7
        have c7b1:((rdOf ByteArray.empty l0 x5_1).toList != (rdOf ByteArray.empty l1 x5_1).toList) = false:=bne_eq_false_iff_eq.mpr c7
        clear c7
        have H':=Aside0.mk H
        clear H
        have p428:0 ≤ (x5_1:Int):=of_decide_eq_true (by first|(with_reducible assumption)|assumption)
        have q428:x5_1 < (l0.length:Int):=of_decide_eq_true (by first|(with_reducible assumption)|assumption)
        obtain ⟨ad428,e428,hx428_0⟩:=Kd.at_string HR0.out x5_1 p428 q428
        cases e428
        replace p428:=eq_true p428
        replace q428:=eq_true q428
        have p429:0 ≤ (x5_1:Int):=of_decide_eq_true (by first|(with_reducible assumption)|assumption)
        have q429:x5_1 < (l1.length:Int):=of_decide_eq_true (by first|(with_reducible assumption)|assumption)
        obtain ⟨ad429,e429,hx429_0⟩:=Kd.at_string HR1.out x5_1 p429 q429
        cases e429
        replace p429:=eq_true p429
        replace q429:=eq_true q429
        go_wp2
        repeat (go_quiet (fail);try go_wp2)
        go_roundg k1
        case measure=>have:=HK1.out;omega
        case rel=>exact ⟨(wrap64 (x5_1 + 1)),(by first|rfl|(simp;done)|(simp only [i64_w,i32_w];done)|(simp only [i64_w,i32_w];rfl)|(simp [*];done)|(simp [emp_bne,emp_beq];done)),H',⟨by have:=HK1.out;omega⟩,by repeat (first|exact Drawn0.refl _|apply Drawn0.step)⟩
       ·rw [if_neg c7] at H
        have c7b0:((rdOf ByteArray.empty l0 x5_1).toList == (rdOf ByteArray.empty l1 x5_1).toList) = false:=beq_eq_false_iff_ne.mpr c7
        have c7b1:((rdOf ByteArray.empty l0 x5_1).toList != (rdOf ByteArray.empty l1 x5_1).toList) = true:=bne_iff_ne.mpr c7
        obtain rfl:=Option.some.inj H
        have p428:0 ≤ (x5_1:Int):=of_decide_eq_true (by first|(with_reducible assumption)|assumption)
        have q428:x5_1 < (l0.length:Int):=of_decide_eq_true (by first|(with_reducible assumption)|assumption)
        obtain ⟨ad428,e428,hx428_0⟩:=Kd.at_string HR0.out x5_1 p428 q428
        cases e428
        replace p428:=eq_true p428
        replace q428:=eq_true q428
        have p429:0 ≤ (x5_1:Int):=of_decide_eq_true (by first|(with_reducible assumption)|assumption)
        have q429:x5_1 < (l1.length:Int):=of_decide_eq_true (by first|(with_reducible assumption)|assumption)
        obtain ⟨ad429,e429,hx429_0⟩:=Kd.at_string HR1.out x5_1 p429 q429
        cases e429
        replace p429:=eq_true p429
        replace q429:=eq_true q429
        go_wp2
        repeat (go_quiet (fail);try go_wp2)
        go_ret
        exact ⟨by first|rfl|(simp;done)|(simp only [i64_w,i32_w];done)|(simp only [i64_w,i32_w];rfl)|(simp [*];done)|(simp [emp_bne,emp_beq];done),by repeat (first|exact Drawn0.refl _|apply Drawn0.step)⟩
      ·rw [if_neg c6] at H
       exact absurd H (by simp)
     ·rw [if_neg c5] at H
      exact absurd H (by simp)
    ·rw [if_neg c4] at H
     have c4b0:decide (x5_1 < (l0.length:Int)) = false:=decide_eq_false c4
     clear c4
     obtain rfl:=Option.some.inj H
     go_wp2
     repeat (go_quiet (fail);try go_wp2)
     go_ret
     exact ⟨by first|rfl|(simp;done)|(simp only [i64_w,i32_w];done)|(simp only [i64_w,i32_w];rfl)|(simp [*];done)|(simp [emp_bne,emp_beq];done),by repeat (first|exact Drawn0.refl _|apply Drawn0.step)⟩
 ·rw [if_neg c3] at H
  have c3b0:((l0.length:Int) == (l1.length:Int)) = false:=beq_eq_false_iff_ne.mpr c3
  have c3b1:((l0.length:Int) != (l1.length:Int)) = true:=bne_iff_ne.mpr c3
  have c3b2:(l0.length == l1.length) = false:=by first|simpa using c3|(simp at c3 ⊢;omega)
  obtain rfl:=Option.some.inj H
  go_enter Tryd.func31,Tryd.ntmps31
  go_wp2
  repeat (go_quiet (fail);try go_wp2)
  go_ret
  exact ⟨by first|rfl|(simp;done)|(simp only [i64_w,i32_w];done)|(simp only [i64_w,i32_w];rfl)|(simp [*];done)|(simp [emp_bne,emp_beq];done),by repeat (first|exact Drawn0.refl _|apply Drawn0.step)⟩

/-! ### laws_lpAddr: function 16 -/
def laws_lpAddr.f (k:Nat) (a0_0:ByteArray) (l0_1:List ByteArray) (a0_2:Bool) (a0_3:ByteArray) (a1_0:ByteArray) (l1_1:List ByteArray) (a1_2:Bool) (a1_3:ByteArray):Option (Bool):=if a0_0.toList = a1_0.toList then (if (a0_2 == a1_2) = true then (if a0_3.toList = a1_3.toList then ((laws_lpTexts.f k l0_1 l1_1).bind fun t432=>(some t432)) else (some false)) else (some false)) else (some false)
theorem laws_lpAddr.mono:∀ a0 a1 a2 a3 a4 a5 a6 a7 k,LeO (laws_lpAddr.f k a0 a1 a2 a3 a4 a5 a6 a7) (laws_lpAddr.f (k + 1) a0 a1 a2 a3 a4 a5 a6 a7):=by
 intro a0 a1 a2 a3 a4 a5 a6 a7 k
 unfold laws_lpAddr.f
 repeat' first
   | (with_reducible exact laws_lpTexts.mono _ _ _)
   | (with_reducible exact LeO.refl _)
   | (with_reducible exact LeO.none _)
   | (with_reducible refine LeO.ite ?_ ?_)
   | (with_reducible refine LeO.bind ?_ (fun _=>?_))
   | exact laws_lpTexts.mono _ _ _
   | exact LeO.none _
   | refine LeO.ite ?_ ?_
   | refine LeO.bind ?_ (fun _=>?_)
theorem laws_lpAddr.calls (k:Nat) (a0_0:ByteArray) (A0_1:Option Addr) (c0_1:Nat) (l0_1:List ByteArray) (a0_2:Bool) (a0_3:ByteArray) (a1_0:ByteArray) (A1_1:Option Addr) (c1_1:Nat) (l1_1:List ByteArray) (a1_2:Bool) (a1_3:ByteArray) (r:Bool) (w:World) (hr0_1:Kd.C Kd.string w A0_1 l0_1.length l0_1) (hc0_1:l0_1.length ≤ c0_1) (hr1_1:Kd.C Kd.string w A1_1 l1_1.length l1_1) (hc1_1:l1_1.length ≤ c1_1) (h:laws_lpAddr.f k a0_0 l0_1 a0_2 a0_3 a1_0 l1_1 a1_2 a1_3 = some r) :
  Calls Tryd.prog 16 #[.agg #[.string a0_0,.slice A0_1 l0_1.length c0_1,.bool a0_2,.string a0_3],.agg #[.string a1_0,.slice A1_1 l1_1.length c1_1,.bool a1_2,.string a1_3]] w fun e w'=>e = .returned (.bool r) ∧ Below w.heap.size w w':=by
 have hu24:=Tryd.underlying24
 have HR0_1:=Aside0.mk hr0_1
 have HC0_1:=Aside0.mk hc0_1
 clear hr0_1 hc0_1
 have HR1_1:=Aside0.mk hr1_1
 have HC1_1:=Aside0.mk hc1_1
 clear hr1_1 hc1_1
 have HB:=Aside0.mk (Below.refl w.heap.size w)
 have H:(if a0_0.toList = a1_0.toList then (if (a0_2 == a1_2) = true then (if a0_3.toList = a1_3.toList then ((laws_lpTexts.f k l0_1 l1_1).bind fun t432=>(some t432)) else (some false)) else (some false)) else (some false)) = some r:=h
 clear h
 by_cases c3:a0_0.toList = a1_0.toList
 ·rw [if_pos c3] at H
  have c3b0:(a0_0.toList == a1_0.toList) = true:=beq_iff_eq.mpr c3
  have c3b1:(a0_0.toList != a1_0.toList) = false:=bne_eq_false_iff_eq.mpr c3
  clear c3
  by_cases c4:(a0_2 == a1_2) = true
  ·rw [if_pos c4] at H
   have c4b0:(a0_2 == a1_2) = true:=c4
   (try (have c4b1:decide (a0_2 = a1_2) = true:=by simpa using c4))
   (try (have c4b2:(a0_2 == a1_2) = true:=by simpa using c4))
   clear c4
   by_cases c5:a0_3.toList = a1_3.toList
   ·rw [if_pos c5] at H
    have c5b0:(a0_3.toList == a1_3.toList) = true:=beq_iff_eq.mpr c5
    have c5b1:(a0_3.toList != a1_3.toList) = false:=bne_eq_false_iff_eq.mpr c5
    clear c5
    replace H:=Option.bind_eq_some_iff.mp H
    obtain ⟨t432,A60,H⟩:=H
    replace H:(some t432) = some r:=H
    have A6:=Aside0.mk A60
    clear A60
    obtain rfl:=Option.some.inj H
    go_enter Tryd.func16,Tryd.ntmps16
    go_wp2_with (first|((with_reducible refine gate_dst (N:=2) rfl ?_);refine box_event ?hg (N:=2) ?hd (cs:=#[.string a0_0,.slice A0_1 l0_1.length c0_1,.bool a0_2,.string a0_3]) (t:=24) ?hr ?_;(case hd=>rfl);(case hg=>rfl);(case hr=>first|(go_simp;done)|(go_simp;rfl));intro gb430 hg w7 hbox hb;have n0_:=Aside0.mk (below_step (by repeat (first|(with_reducible first|exact HB.out|apply below_alloc|apply pw_below_drewN|apply below_drew1)|exact HB.out)) hb);have n1_:=Aside0.mk (hbox);have n2_:=Aside0.mk ((by rw [hg];exact (below_size (by repeat (first|(with_reducible first|exact HB.out|apply below_alloc|apply pw_below_drewN|apply below_drew1)|exact HB.out))):w.heap.size ≤ gb430));have n3_:=n2_;clear HB;have HB:=n0_;have BK430:=n1_;have GW430:=n2_;have GE430:=n3_;clear n0_ n1_ n2_ n3_;clear hb hbox hg)|((with_reducible refine gate_dst (N:=3) rfl ?_);refine box_event ?hg (N:=3) ?hd (cs:=#[.string a1_0,.slice A1_1 l1_1.length c1_1,.bool a1_2,.string a1_3]) (t:=24) ?hr ?_;(case hd=>rfl);(case hg=>rfl);(case hr=>first|(go_simp;done)|(go_simp;rfl));intro gb431 hg w8 hbox hb;have n0_:=Aside0.mk (blk_below (g:=gb430) (o:=.cells #[.string a0_0,.slice A0_1 l0_1.length c0_1,.bool a0_2,.string a0_3] 24 (0,0)) (by (with_reducible repeat (first|refine blk_drewN ?_ _|refine blk_drew ?_|refine blk_alloc ?_ _));exact BK430.out) hb);have n1_:=Aside0.mk (below_step (by repeat (first|(with_reducible first|exact HB.out|apply below_alloc|apply pw_below_drewN|apply below_drew1|refine below_set ?_ GE430.out)|exact HB.out)) hb);have n2_:=Aside0.mk (hbox);have n3_:=Aside0.mk ((by rw [hg];exact (below_size (by repeat (first|(with_reducible first|exact HB.out|apply below_alloc|apply pw_below_drewN|apply below_drew1|refine below_set ?_ GE430.out)|exact HB.out))):w.heap.size ≤ gb431));have n4_:=n3_;have n5_:=Aside0.mk ((by rw [hg];exact Nat.ne_of_lt (blk_lt (g:=gb430) (o:=.cells #[.string a0_0,.slice A0_1 l0_1.length c0_1,.bool a0_2,.string a0_3] 24 (0,0)) (by (with_reducible repeat (first|refine blk_drewN ?_ _|refine blk_drew ?_|refine blk_alloc ?_ _));exact BK430.out)):gb430 ≠ gb431));have n6_:=Aside0.mk ((by rw [hg];exact Nat.ne_of_gt (blk_lt (g:=gb430) (o:=.cells #[.string a0_0,.slice A0_1 l0_1.length c0_1,.bool a0_2,.string a0_3] 24 (0,0)) (by (with_reducible repeat (first|refine blk_drewN ?_ _|refine blk_drew ?_|refine blk_alloc ?_ _));exact BK430.out)):gb431 ≠ gb430));clear BK430;clear HB;have BK430:=n0_;have HB:=n1_;have BK431:=n2_;have GW431:=n3_;have GE431:=n4_;have NB430_431:=n5_;have NB431_430:=n6_;clear n0_ n1_ n2_ n3_ n4_ n5_ n6_;clear hb hbox hg;have hnb9:=NB430_431.out;have hnc9:=NB431_430.out;have hcz10_0:w8.cell? ⟨gb430,0,none⟩ = some (.string a0_0):=(blk_cell BK430.out 0).trans rfl;have hcz10_1:w8.cell? ⟨gb430,1,none⟩ = some (.slice A0_1 l0_1.length c0_1):=(blk_cell BK430.out 1).trans rfl;have hcz10_2:w8.cell? ⟨gb430,2,none⟩ = some (.bool a0_2):=(blk_cell BK430.out 2).trans rfl;have hcz10_3:w8.cell? ⟨gb430,3,none⟩ = some (.string a0_3):=(blk_cell BK430.out 3).trans rfl;have hfz10_0:=blk_frozen BK430.out 0;have hfz10_1:=blk_frozen BK430.out 1;have hfz10_2:=blk_frozen BK430.out 2;have hfz10_3:=blk_frozen BK430.out 3;have hcz11_0:w8.cell? ⟨gb431,0,none⟩ = some (.string a1_0):=(blk_cell BK431.out 0).trans rfl;have hcz11_1:w8.cell? ⟨gb431,1,none⟩ = some (.slice A1_1 l1_1.length c1_1):=(blk_cell BK431.out 1).trans rfl;have hcz11_2:w8.cell? ⟨gb431,2,none⟩ = some (.bool a1_2):=(blk_cell BK431.out 2).trans rfl;have hcz11_3:w8.cell? ⟨gb431,3,none⟩ = some (.string a1_3):=(blk_cell BK431.out 3).trans rfl;have hfz11_0:=blk_frozen BK431.out 0;have hfz11_1:=blk_frozen BK431.out 1;have hfz11_2:=blk_frozen BK431.out 2;have hfz11_3:=blk_frozen BK431.out 3)|(go_at_call 31;(with_reducible refine (laws_lpTexts.calls k _ _ l0_1 _ _ l1_1 t432 _ ?side1 ?side2 ?side3 ?side4 A6.out).mono ?_);(case side1=>repeat (first|exact (Kd.C_below HR0_1.out HB.out)|(with_reducible refine Kd.C_alloc ?_ _)|(with_reducible refine Kd.C_drewN ?_ _)|(with_reducible refine Kd.C_drew ?_)));(case side2=>exact HC0_1.out);(case side3=>repeat (first|exact (Kd.C_below HR1_1.out HB.out)|(with_reducible refine Kd.C_alloc ?_ _)|(with_reducible refine Kd.C_drewN ?_ _)|(with_reducible refine Kd.C_drew ?_)));(case side4=>exact HC1_1.out);rintro e w' ⟨rfl,⟨nd,rfl⟩⟩))
    go_ret
    exact ⟨by first|rfl|(simp <;> rfl)|(simp [*] <;> rfl),by repeat (first|(with_reducible first|exact HB.out|apply below_alloc|apply pw_below_drewN|apply below_drew1|refine below_set ?_ GE430.out|refine below_set ?_ GE431.out)|exact HB.out)⟩
   ·rw [if_neg c5] at H
    have c5b0:(a0_3.toList == a1_3.toList) = false:=beq_eq_false_iff_ne.mpr c5
    have c5b1:(a0_3.toList != a1_3.toList) = true:=bne_iff_ne.mpr c5
    obtain rfl:=Option.some.inj H
    go_enter Tryd.func16,Tryd.ntmps16
    go_wp2_with (first|((with_reducible refine gate_dst (N:=2) rfl ?_);refine box_event ?hg (N:=2) ?hd (cs:=#[.string a0_0,.slice A0_1 l0_1.length c0_1,.bool a0_2,.string a0_3]) (t:=24) ?hr ?_;(case hd=>rfl);(case hg=>rfl);(case hr=>first|(go_simp;done)|(go_simp;rfl));intro gb430 hg w12 hbox hb;have n0_:=Aside0.mk (below_step (by repeat (first|(with_reducible first|exact HB.out|apply below_alloc|apply pw_below_drewN|apply below_drew1)|exact HB.out)) hb);have n1_:=Aside0.mk (hbox);have n2_:=Aside0.mk ((by rw [hg];exact (below_size (by repeat (first|(with_reducible first|exact HB.out|apply below_alloc|apply pw_below_drewN|apply below_drew1)|exact HB.out))):w.heap.size ≤ gb430));have n3_:=n2_;clear HB;have HB:=n0_;have BK430:=n1_;have GW430:=n2_;have GE430:=n3_;clear n0_ n1_ n2_ n3_;clear hb hbox hg)|((with_reducible refine gate_dst (N:=3) rfl ?_);refine box_event ?hg (N:=3) ?hd (cs:=#[.string a1_0,.slice A1_1 l1_1.length c1_1,.bool a1_2,.string a1_3]) (t:=24) ?hr ?_;(case hd=>rfl);(case hg=>rfl);(case hr=>first|(go_simp;done)|(go_simp;rfl));intro gb431 hg w13 hbox hb;have n0_:=Aside0.mk (blk_below (g:=gb430) (o:=.cells #[.string a0_0,.slice A0_1 l0_1.length c0_1,.bool a0_2,.string a0_3] 24 (0,0)) (by (with_reducible repeat (first|refine blk_drewN ?_ _|refine blk_drew ?_|refine blk_alloc ?_ _));exact BK430.out) hb);have n1_:=Aside0.mk (below_step (by repeat (first|(with_reducible first|exact HB.out|apply below_alloc|apply pw_below_drewN|apply below_drew1|refine below_set ?_ GE430.out)|exact HB.out)) hb);have n2_:=Aside0.mk (hbox);have n3_:=Aside0.mk ((by rw [hg];exact (below_size (by repeat (first|(with_reducible first|exact HB.out|apply below_alloc|apply pw_below_drewN|apply below_drew1|refine below_set ?_ GE430.out)|exact HB.out))):w.heap.size ≤ gb431));have n4_:=n3_;have n5_:=Aside0.mk ((by rw [hg];exact Nat.ne_of_lt (blk_lt (g:=gb430) (o:=.cells #[.string a0_0,.slice A0_1 l0_1.length c0_1,.bool a0_2,.string a0_3] 24 (0,0)) (by (with_reducible repeat (first|refine blk_drewN ?_ _|refine blk_drew ?_|refine blk_alloc ?_ _));exact BK430.out)):gb430 ≠ gb431));have n6_:=Aside0.mk ((by rw [hg];exact Nat.ne_of_gt (blk_lt (g:=gb430) (o:=.cells #[.string a0_0,.slice A0_1 l0_1.length c0_1,.bool a0_2,.string a0_3] 24 (0,0)) (by (with_reducible repeat (first|refine blk_drewN ?_ _|refine blk_drew ?_|refine blk_alloc ?_ _));exact BK430.out)):gb431 ≠ gb430));clear BK430;clear HB;have BK430:=n0_;have HB:=n1_;have BK431:=n2_;have GW431:=n3_;have GE431:=n4_;have NB430_431:=n5_;have NB431_430:=n6_;clear n0_ n1_ n2_ n3_ n4_ n5_ n6_;clear hb hbox hg;have hnb14:=NB430_431.out;have hnc14:=NB431_430.out;have hcz15_0:w13.cell? ⟨gb430,0,none⟩ = some (.string a0_0):=(blk_cell BK430.out 0).trans rfl;have hcz15_1:w13.cell? ⟨gb430,1,none⟩ = some (.slice A0_1 l0_1.length c0_1):=(blk_cell BK430.out 1).trans rfl;have hcz15_2:w13.cell? ⟨gb430,2,none⟩ = some (.bool a0_2):=(blk_cell BK430.out 2).trans rfl;have hcz15_3:w13.cell? ⟨gb430,3,none⟩ = some (.string a0_3):=(blk_cell BK430.out 3).trans rfl;have hfz15_0:=blk_frozen BK430.out 0;have hfz15_1:=blk_frozen BK430.out 1;have hfz15_2:=blk_frozen BK430.out 2;have hfz15_3:=blk_frozen BK430.out 3;have hcz16_0:w13.cell? ⟨gb431,0,none⟩ = some (.string a1_0):=(blk_cell BK431.out 0).trans rfl;have hcz16_1:w13.cell? ⟨gb431,1,none⟩ = some (.slice A1_1 l1_1.length c1_1):=(blk_cell BK431.out 1).trans rfl;have hcz16_2:w13.cell? ⟨gb431,2,none⟩ = some (.bool a1_2):=(blk_cell BK431.out 2).trans rfl;have hcz16_3:w13.cell? ⟨gb431,3,none⟩ = some (.string a1_3):=(blk_cell BK431.out 3).trans rfl;have hfz16_0:=blk_frozen BK431.out 0;have hfz16_1:=blk_frozen BK431.out 1;have hfz16_2:=blk_frozen BK431.out 2;have hfz16_3:=blk_frozen BK431.out 3))
    go_ret
    exact ⟨by first|rfl|(simp <;> rfl)|(simp [*] <;> rfl),by repeat (first|(with_reducible first|exact HB.out|apply below_alloc|apply pw_below_drewN|apply below_drew1|refine below_set ?_ GE430.out|refine below_set ?_ GE431.out)|exact HB.out)⟩
  ·rw [if_neg c4] at H
   have c4b0:(a0_2 == a1_2) = false:=by simpa using c4
   (try (have c4b1:decide (a0_2 = a1_2) = false:=by simpa using c4))
   (try (have c4b2:(a0_2 == a1_2) = false:=by simpa using c4))
   (try (have c4b3:¬ (a0_2 = a1_2):=by simpa using c4))
   clear c4
   obtain rfl:=Option.some.inj H
   go_enter Tryd.func16,Tryd.ntmps16
   go_wp2_with (first|((with_reducible refine gate_dst (N:=2) rfl ?_);refine box_event ?hg (N:=2) ?hd (cs:=#[.string a0_0,.slice A0_1 l0_1.length c0_1,.bool a0_2,.string a0_3]) (t:=24) ?hr ?_;(case hd=>rfl);(case hg=>rfl);(case hr=>first|(go_simp;done)|(go_simp;rfl));intro gb430 hg w17 hbox hb;have n0_:=Aside0.mk (below_step (by repeat (first|(with_reducible first|exact HB.out|apply below_alloc|apply pw_below_drewN|apply below_drew1)|exact HB.out)) hb);have n1_:=Aside0.mk (hbox);have n2_:=Aside0.mk ((by rw [hg];exact (below_size (by repeat (first|(with_reducible first|exact HB.out|apply below_alloc|apply pw_below_drewN|apply below_drew1)|exact HB.out))):w.heap.size ≤ gb430));have n3_:=n2_;clear HB;have HB:=n0_;have BK430:=n1_;have GW430:=n2_;have GE430:=n3_;clear n0_ n1_ n2_ n3_;clear hb hbox hg)|((with_reducible refine gate_dst (N:=3) rfl ?_);refine box_event ?hg (N:=3) ?hd (cs:=#[.string a1_0,.slice A1_1 l1_1.length c1_1,.bool a1_2,.string a1_3]) (t:=24) ?hr ?_;(case hd=>rfl);(case hg=>rfl);(case hr=>first|(go_simp;done)|(go_simp;rfl));intro gb431 hg w18 hbox hb;have n0_:=Aside0.mk (blk_below (g:=gb430) (o:=.cells #[.string a0_0,.slice A0_1 l0_1.length c0_1,.bool a0_2,.string a0_3] 24 (0,0)) (by (with_reducible repeat (first|refine blk_drewN ?_ _|refine blk_drew ?_|refine blk_alloc ?_ _));exact BK430.out) hb);have n1_:=Aside0.mk (below_step (by repeat (first|(with_reducible first|exact HB.out|apply below_alloc|apply pw_below_drewN|apply below_drew1|refine below_set ?_ GE430.out)|exact HB.out)) hb);have n2_:=Aside0.mk (hbox);have n3_:=Aside0.mk ((by rw [hg];exact (below_size (by repeat (first|(with_reducible first|exact HB.out|apply below_alloc|apply pw_below_drewN|apply below_drew1|refine below_set ?_ GE430.out)|exact HB.out))):w.heap.size ≤ gb431));have n4_:=n3_;have n5_:=Aside0.mk ((by rw [hg];exact Nat.ne_of_lt (blk_lt (g:=gb430) (o:=.cells #[.string a0_0,.slice A0_1 l0_1.length c0_1,.bool a0_2,.string a0_3] 24 (0,0)) (by (with_reducible repeat (first|refine blk_drewN ?_ _|refine blk_drew ?_|refine blk_alloc ?_ _));exact BK430.out)):gb430 ≠ gb431));have n6_:=Aside0.mk ((by rw [hg];exact Nat.ne_of_gt (blk_lt (g:=gb430) (o:=.cells #[.string a0_0,.slice A0_1 l0_1.length c0_1,.bool a0_2,.string a0_3] 24 (0,0)) (by (with_reducible repeat (first|refine blk_drewN ?_ _|refine blk_drew ?_|refine blk_alloc ?_ _));exact BK430.out)):gb431 ≠ gb430));clear BK430;clear HB;have BK430:=n0_;have HB:=n1_;have BK431:=n2_;have GW431:=n3_;have GE431:=n4_;have NB430_431:=n5_;have NB431_430:=n6_;clear n0_ n1_ n2_ n3_ n4_ n5_ n6_;clear hb hbox hg;have hnb19:=NB430_431.out;have hnc19:=NB431_430.out;have hcz20_0:w18.cell? ⟨gb430,0,none⟩ = some (.string a0_0):=(blk_cell BK430.out 0).trans rfl;have hcz20_1:w18.cell? ⟨gb430,1,none⟩ = some (.slice A0_1 l0_1.length c0_1):=(blk_cell BK430.out 1).trans rfl;have hcz20_2:w18.cell? ⟨gb430,2,none⟩ = some (.bool a0_2):=(blk_cell BK430.out 2).trans rfl;have hcz20_3:w18.cell? ⟨gb430,3,none⟩ = some (.string a0_3):=(blk_cell BK430.out 3).trans rfl;have hfz20_0:=blk_frozen BK430.out 0;have hfz20_1:=blk_frozen BK430.out 1;have hfz20_2:=blk_frozen BK430.out 2;have hfz20_3:=blk_frozen BK430.out 3;have hcz21_0:w18.cell? ⟨gb431,0,none⟩ = some (.string a1_0):=(blk_cell BK431.out 0).trans rfl;have hcz21_1:w18.cell? ⟨gb431,1,none⟩ = some (.slice A1_1 l1_1.length c1_1):=(blk_cell BK431.out 1).trans rfl;have hcz21_2:w18.cell? ⟨gb431,2,none⟩ = some (.bool a1_2):=(blk_cell BK431.out 2).trans rfl;have hcz21_3:w18.cell? ⟨gb431,3,none⟩ = some (.string a1_3):=(blk_cell BK431.out 3).trans rfl;have hfz21_0:=blk_frozen BK431.out 0;have hfz21_1:=blk_frozen BK431.out 1;have hfz21_2:=blk_frozen BK431.out 2;have hfz21_3:=blk_frozen BK431.out 3))
   go_ret
   exact ⟨by first|rfl|(simp <;> rfl)|(simp [*] <;> rfl),by repeat (first|(with_reducible first|exact HB.out|apply below_alloc|apply pw_below_drewN|apply below_drew1|refine below_set ?_ GE430.out|refine below_set ?_ GE431.out)|exact HB.out)⟩
 ·rw [if_neg c3] at H
  have c3b0:(a0_0.toList == a1_0.toList) = false:=beq_eq_false_iff_ne.mpr c3
  have c3b1:(a0_0.toList != a1_0.toList) = true:=bne_iff_ne.mpr c3
  obtain rfl:=Option.some.inj H
  go_enter Tryd.func16,Tryd.ntmps16
  go_wp2_with (first|((with_reducible refine gate_dst (N:=2) rfl ?_);refine box_event ?hg (N:=2) ?hd (cs:=#[.string a0_0,.slice A0_1 l0_1.length c0_1,.bool a0_2,.string a0_3]) (t:=24) ?hr ?_;(case hd=>rfl);(case hg=>rfl);(case hr=>first|(go_simp;done)|(go_simp;rfl));intro gb430 hg w22 hbox hb;have n0_:=Aside0.mk (below_step (by repeat (first|(with_reducible first|exact HB.out|apply below_alloc|apply pw_below_drewN|apply below_drew1)|exact HB.out)) hb);have n1_:=Aside0.mk (hbox);have n2_:=Aside0.mk ((by rw [hg];exact (below_size (by repeat (first|(with_reducible first|exact HB.out|apply below_alloc|apply pw_below_drewN|apply below_drew1)|exact HB.out))):w.heap.size ≤ gb430));have n3_:=n2_;clear HB;have HB:=n0_;have BK430:=n1_;have GW430:=n2_;have GE430:=n3_;clear n0_ n1_ n2_ n3_;clear hb hbox hg)|((with_reducible refine gate_dst (N:=3) rfl ?_);refine box_event ?hg (N:=3) ?hd (cs:=#[.string a1_0,.slice A1_1 l1_1.length c1_1,.bool a1_2,.string a1_3]) (t:=24) ?hr ?_;(case hd=>rfl);(case hg=>rfl);(case hr=>first|(go_simp;done)|(go_simp;rfl));intro gb431 hg w23 hbox hb;have n0_:=Aside0.mk (blk_below (g:=gb430) (o:=.cells #[.string a0_0,.slice A0_1 l0_1.length c0_1,.bool a0_2,.string a0_3] 24 (0,0)) (by (with_reducible repeat (first|refine blk_drewN ?_ _|refine blk_drew ?_|refine blk_alloc ?_ _));exact BK430.out) hb);have n1_:=Aside0.mk (below_step (by repeat (first|(with_reducible first|exact HB.out|apply below_alloc|apply pw_below_drewN|apply below_drew1|refine below_set ?_ GE430.out)|exact HB.out)) hb);have n2_:=Aside0.mk (hbox);have n3_:=Aside0.mk ((by rw [hg];exact (below_size (by repeat (first|(with_reducible first|exact HB.out|apply below_alloc|apply pw_below_drewN|apply below_drew1|refine below_set ?_ GE430.out)|exact HB.out))):w.heap.size ≤ gb431));have n4_:=n3_;have n5_:=Aside0.mk ((by rw [hg];exact Nat.ne_of_lt (blk_lt (g:=gb430) (o:=.cells #[.string a0_0,.slice A0_1 l0_1.length c0_1,.bool a0_2,.string a0_3] 24 (0,0)) (by (with_reducible repeat (first|refine blk_drewN ?_ _|refine blk_drew ?_|refine blk_alloc ?_ _));exact BK430.out)):gb430 ≠ gb431));have n6_:=Aside0.mk ((by rw [hg];exact Nat.ne_of_gt (blk_lt (g:=gb430) (o:=.cells #[.string a0_0,.slice A0_1 l0_1.length c0_1,.bool a0_2,.string a0_3] 24 (0,0)) (by (with_reducible repeat (first|refine blk_drewN ?_ _|refine blk_drew ?_|refine blk_alloc ?_ _));exact BK430.out)):gb431 ≠ gb430));clear BK430;clear HB;have BK430:=n0_;have HB:=n1_;have BK431:=n2_;have GW431:=n3_;have GE431:=n4_;have NB430_431:=n5_;have NB431_430:=n6_;clear n0_ n1_ n2_ n3_ n4_ n5_ n6_;clear hb hbox hg;have hnb24:=NB430_431.out;have hnc24:=NB431_430.out;have hcz25_0:w23.cell? ⟨gb430,0,none⟩ = some (.string a0_0):=(blk_cell BK430.out 0).trans rfl;have hcz25_1:w23.cell? ⟨gb430,1,none⟩ = some (.slice A0_1 l0_1.length c0_1):=(blk_cell BK430.out 1).trans rfl;have hcz25_2:w23.cell? ⟨gb430,2,none⟩ = some (.bool a0_2):=(blk_cell BK430.out 2).trans rfl;have hcz25_3:w23.cell? ⟨gb430,3,none⟩ = some (.string a0_3):=(blk_cell BK430.out 3).trans rfl;have hfz25_0:=blk_frozen BK430.out 0;have hfz25_1:=blk_frozen BK430.out 1;have hfz25_2:=blk_frozen BK430.out 2;have hfz25_3:=blk_frozen BK430.out 3;have hcz26_0:w23.cell? ⟨gb431,0,none⟩ = some (.string a1_0):=(blk_cell BK431.out 0).trans rfl;have hcz26_1:w23.cell? ⟨gb431,1,none⟩ = some (.slice A1_1 l1_1.length c1_1):=(blk_cell BK431.out 1).trans rfl;have hcz26_2:w23.cell? ⟨gb431,2,none⟩ = some (.bool a1_2):=(blk_cell BK431.out 2).trans rfl;have hcz26_3:w23.cell? ⟨gb431,3,none⟩ = some (.string a1_3):=(blk_cell BK431.out 3).trans rfl;have hfz26_0:=blk_frozen BK431.out 0;have hfz26_1:=blk_frozen BK431.out 1;have hfz26_2:=blk_frozen BK431.out 2;have hfz26_3:=blk_frozen BK431.out 3))
  go_ret
  exact ⟨by first|rfl|(simp <;> rfl)|(simp [*] <;> rfl),by repeat (first|(with_reducible first|exact HB.out|apply below_alloc|apply pw_below_drewN|apply below_drew1|refine below_set ?_ GE430.out|refine below_set ?_ GE431.out)|exact HB.out)⟩

end Go.Proofs.YtochmlkladpfgaaDoor.P
