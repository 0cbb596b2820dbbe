-- Written by a program of this session (patch_print.py over the kit's print; given texts in wip/given).
-- Cut down by a program of this session (wip/tools/prune.py) to what its claim can name.
import Derived.Test.YtbnnamjaljohiaaDoorSq
import Derived.Test.YtbnnamjaljohiaaDoorPx0
import Derived.Test.YtbnnamjaljohiaaDoorPx1
import Derived.Test.YtbnnamjaljohiaaDoorPx2
import Derived.Test.YtbnnamjaljohiaaDoorPx3
namespace Go.Proofs.YtbnnamjaljohiaaDoor.P
open Go.RowKit Go.Proofs.YtbnnamjaljohiaaDoorW.PrintWords Go.Proofs.YtbnnamjaljohiaaDoorW.PrintLast Go.Proofs.YtbnnamjaljohiaaDoorW.PrintMore
attribute [local go_sem] max2_int min2_int max_two min_two max_three min_three max_four min_four   -- for this text's walks alone
set_option linter.unusedVariables false
set_option linter.unusedSimpArgs false
set_option maxHeartbeats 8000000
set_option maxRecDepth 100000

/-! ### laws_lpTexts: function 41 -/
def laws_lpTexts.l0:Nat → List ByteArray → List ByteArray → Int → Option (Bool)
 | 0,_,_,_=>none
 | k + 1,x0,x1,x5=>if x5 < (x0.length:Int) then (if 0 ≤ x5 then (if x5 < (x1.length:Int) then (if (rdOf ByteArray.empty x0 x5).toList = (rdOf ByteArray.empty x1 x5).toList then (laws_lpTexts.l0 k x0 x1 (wrap64 (x5 + 1))) else (some false)) else (none)) else (none)) else (some true)
def laws_lpTexts.f (k:Nat) (l0:List ByteArray) (l1:List ByteArray):Option (Bool):=if (l0.length:Int) = (l1.length:Int) then (laws_lpTexts.l0 k l0 l1 0) else (some false)
theorem laws_lpTexts.mono_l:∀ k,(∀ y0 y1 y2,LeO (laws_lpTexts.l0 k y0 y1 y2) (laws_lpTexts.l0 (k + 1) y0 y1 y2))
 | 0=>fun _ _ _ r h=>by simp [laws_lpTexts.l0] at h
 | k + 1=>by
  have ih0:=laws_lpTexts.mono_l k
  ·intro y0 y1 y2
   unfold laws_lpTexts.l0
   repeat' first
   | (with_reducible apply ih0)
   | (with_reducible exact LeO.refl _)
   | (with_reducible exact LeO.none _)
   | (with_reducible refine LeO.ite ?_ ?_)
   | (with_reducible refine LeO.bind ?_ (fun _=>?_))
   | exact ih0 _ _ _
   | exact LeO.none _
   | refine LeO.ite ?_ ?_
   | refine LeO.bind ?_ (fun _=>?_)
theorem laws_lpTexts.mono:∀ a0 a1 k,LeO (laws_lpTexts.f k a0 a1) (laws_lpTexts.f (k + 1) a0 a1):=by
 intro a0 a1 k
 have ih0:=laws_lpTexts.mono_l k
 unfold laws_lpTexts.f
 repeat' first
   | (with_reducible apply ih0)
   | (with_reducible exact LeO.refl _)
   | (with_reducible exact LeO.none _)
   | (with_reducible refine LeO.ite ?_ ?_)
   | (with_reducible refine LeO.bind ?_ (fun _=>?_))
   | exact ih0 _ _ _
   | exact LeO.none _
   | refine LeO.ite ?_ ?_
   | refine LeO.bind ?_ (fun _=>?_)
theorem laws_lpTexts.calls (k:Nat) (A0:Option Addr) (c0:Nat) (l0:List ByteArray) (A1:Option Addr) (c1:Nat) (l1:List ByteArray) (r:Bool) (w:World) (hr0:Kd.C Kd.string w A0 l0.length l0) (hc0:l0.length ≤ c0) (hr1:Kd.C Kd.string w A1 l1.length l1) (hc1:l1.length ≤ c1) (h:laws_lpTexts.f k l0 l1 = some r) :
  Calls Tryd.prog 41 #[.slice A0 l0.length c0, .slice A1 l1.length c1] w fun e w'=>e = .returned (.bool r) ∧ Drawn0 w w':=by
 have HR0:=Am hr0
 have HC0:=Am hc0
 clear hr0 hc0
 have HR1:=Am hr1
 have HC1:=Am hc1
 clear hr1 hc1
 have H:(if (l0.length:Int) = (l1.length:Int) then (laws_lpTexts.l0 k l0 l1 0) else (some false)) = some r:=h
 clear h
 by_cases c3:(l0.length:Int) = (l1.length:Int)
 ·rw [if_pos c3] at H
  have c3b0:((l0.length:Int) == (l1.length:Int)) = true:=beq_iff_eq.mpr c3
  have c3b1:((l0.length:Int) != (l1.length:Int)) = false:=bne_eq_false_iff_eq.mpr c3
  have c3b2:(l0.length == l1.length) = true:=by first|simpa using c3|(simp at c3 ⊢;omega)
  clear c3
  have H':=Am H
  clear H
  go_enter Tryd.func41,Tryd.ntmps41
  go_wp2
  repeat (go_quiet (fail);try go_wp2)
  go_loopg [5] k (fun kq v5 w'=>∃ (x5_1:Int),v5 = .int .i64 x5_1 ∧ Aside0 (laws_lpTexts.l0 kq l0 l1 x5_1 = some r) ∧ Aside0 (kq ≤ k) ∧ Drawn0 w w')
  case atStart=>exact ⟨(0),(by first|rfl|(simp;done)|(simp only [i64_w,i32_w] <;> rfl)|(simp [*];done)|(simp [emp_bne,emp_beq];done)),H',⟨Nat.le_refl _⟩,by repeat (first|exact Drawn0.refl _|apply Drawn0.step)⟩
  case round =>
   clear H'
   try clear c1
   try clear p2
   try clear c3
   try clear c3b0
   try clear c3b1
   try clear c3b2
   obtain ⟨x5_1,rfl,HA,HK1,⟨m1,rfl⟩⟩:=hrel
   cases gk with
   | zero=>exact absurd HA.out (by simp [laws_lpTexts.l0])
   | succ k1 =>
    have H:=HA.out
    clear HA
    simp only [laws_lpTexts.l0] at H
    by_cases c4:x5_1 < (l0.length:Int)
    ·rw [if_pos c4] at H
     have c4b0:decide (x5_1 < (l0.length:Int)) = true:=decide_eq_true c4
     clear c4
     by_cases c5:0 ≤ x5_1
     ·rw [if_pos c5] at H
      have c5b0:decide (0 ≤ x5_1) = true:=decide_eq_true c5
      clear c5
      by_cases c6:x5_1 < (l1.length:Int)
      ·rw [if_pos c6] at H
       have c6b0:decide (x5_1 < (l1.length:Int)) = true:=decide_eq_true c6
       clear c6
       by_cases c7:(rdOf ByteArray.empty l0 x5_1).toList = (rdOf ByteArray.empty l1 x5_1).toList
       ·rw [if_pos c7] at H
        have c7b0:((rdOf ByteArray.empty l0 x5_1).toList == (rdOf ByteArray.empty l1 x5_1).toList) = true:=beq_iff_eq.mpr c7
        have c7b1:((rdOf ByteArray.empty l0 x5_1).toList != (rdOf ByteArray.empty l1 x5_1).toList) = false:=bne_eq_false_iff_eq.mpr c7
        clear c7
        have H':=Am H
        clear H
        have p101:0 ≤ (x5_1:Int):=oD (by assumption)
        have q101:x5_1 < (l0.length:Int):=oD (by assumption)
        obtain ⟨ad101,e101,hx101_0⟩:=Kd.at_string HR0.out x5_1 p101 q101
        cases e101
        replace p101:=eq_true p101
        replace q101:=eq_true q101
        have p102:0 ≤ (x5_1:Int):=oD (by assumption)
        have q102:x5_1 < (l1.length:Int):=oD (by assumption)
        obtain ⟨ad102,e102,hx102_0⟩:=Kd.at_string HR1.out x5_1 p102 q102
        cases e102
        replace p102:=eq_true p102
        replace q102:=eq_true q102
        go_wp2
        repeat (go_quiet (fail);try go_wp2)
        go_roundg k1
        case measure=>have:=HK1.out;omega
        case rel=>exact ⟨(wrap64 (x5_1 + 1)),(by first|rfl|(simp;done)|(simp only [i64_w,i32_w] <;> rfl)|(simp [*];done)|(simp [emp_bne,emp_beq];done)),H',⟨by have:=HK1.out;omega⟩,by repeat (first|exact Drawn0.refl _|apply Drawn0.step)⟩
       ·rw [if_neg c7] at H
        have c7b0:((rdOf ByteArray.empty l0 x5_1).toList == (rdOf ByteArray.empty l1 x5_1).toList) = false:=beq_eq_false_iff_ne.mpr c7
        have c7b1:((rdOf ByteArray.empty l0 x5_1).toList != (rdOf ByteArray.empty l1 x5_1).toList) = true:=bne_iff_ne.mpr c7
        obtain rfl:=Option.some.inj H
        have p101:0 ≤ (x5_1:Int):=oD (by assumption)
        have q101:x5_1 < (l0.length:Int):=oD (by assumption)
        obtain ⟨ad101,e101,hx101_0⟩:=Kd.at_string HR0.out x5_1 p101 q101
        cases e101
        replace p101:=eq_true p101
        replace q101:=eq_true q101
        have p102:0 ≤ (x5_1:Int):=oD (by assumption)
        have q102:x5_1 < (l1.length:Int):=oD (by assumption)
        obtain ⟨ad102,e102,hx102_0⟩:=Kd.at_string HR1.out x5_1 p102 q102
        cases e102
        replace p102:=eq_true p102
        replace q102:=eq_true q102
        go_wp2
        repeat (go_quiet (fail);try go_wp2)
        go_ret
        exact ⟨by first|rfl|(simp;done)|(simp only [i64_w,i32_w] <;> rfl)|(simp [*];done)|(simp [emp_bne,emp_beq];done),by repeat (first|exact Drawn0.refl _|apply Drawn0.step)⟩
      ·rw [if_neg c6] at H
       exact absurd H (by simp)
     ·rw [if_neg c5] at H
      exact absurd H (by simp)
    ·rw [if_neg c4] at H
     have c4b0:decide (x5_1 < (l0.length:Int)) = false:=decide_eq_false c4
     clear c4
     obtain rfl:=Option.some.inj H
     go_wp2
     repeat (go_quiet (fail);try go_wp2)
     go_ret
     exact ⟨by first|rfl|(simp;done)|(simp only [i64_w,i32_w] <;> rfl)|(simp [*];done)|(simp [emp_bne,emp_beq];done),by repeat (first|exact Drawn0.refl _|apply Drawn0.step)⟩
 ·rw [if_neg c3] at H
  have c3b0:((l0.length:Int) == (l1.length:Int)) = false:=beq_eq_false_iff_ne.mpr c3
  have c3b1:((l0.length:Int) != (l1.length:Int)) = true:=bne_iff_ne.mpr c3
  have c3b2:(l0.length == l1.length) = false:=by first|simpa using c3|(simp at c3 ⊢;omega)
  obtain rfl:=Option.some.inj H
  go_enter Tryd.func41,Tryd.ntmps41
  go_wp2
  repeat (go_quiet (fail);try go_wp2)
  go_ret
  exact ⟨by first|rfl|(simp;done)|(simp only [i64_w,i32_w] <;> rfl)|(simp [*];done)|(simp [emp_bne,emp_beq];done),by repeat (first|exact Drawn0.refl _|apply Drawn0.step)⟩

/-! ### laws_lpAddr: function 14 -/
def laws_lpAddr.f (k:Nat) (a0_0:ByteArray) (l0_1:List ByteArray) (a0_2:Bool) (a0_3:ByteArray) (a1_0:ByteArray) (l1_1:List ByteArray) (a1_2:Bool) (a1_3:ByteArray):Option (Bool):=if a0_0.toList = a1_0.toList then (if (a0_2 == a1_2) = true then (if a0_3.toList = a1_3.toList then ((laws_lpTexts.f k l0_1 l1_1).bind fun t105=>(some t105)) else (some false)) else (some false)) else (some false)
theorem laws_lpAddr.mono:∀ a0 a1 a2 a3 a4 a5 a6 a7 k,LeO (laws_lpAddr.f k a0 a1 a2 a3 a4 a5 a6 a7) (laws_lpAddr.f (k + 1) a0 a1 a2 a3 a4 a5 a6 a7):=by
 intro a0 a1 a2 a3 a4 a5 a6 a7 k
 unfold laws_lpAddr.f
 repeat' first
   | (with_reducible apply laws_lpTexts.mono)
   | (with_reducible exact LeO.refl _)
   | (with_reducible exact LeO.none _)
   | (with_reducible refine LeO.ite ?_ ?_)
   | (with_reducible refine LeO.bind ?_ (fun _=>?_))
   | exact laws_lpTexts.mono _ _ _
   | exact LeO.none _
   | refine LeO.ite ?_ ?_
   | refine LeO.bind ?_ (fun _=>?_)
theorem laws_lpAddr.calls (k:Nat) (a0_0:ByteArray) (A0_1:Option Addr) (c0_1:Nat) (l0_1:List ByteArray) (a0_2:Bool) (a0_3:ByteArray) (a1_0:ByteArray) (A1_1:Option Addr) (c1_1:Nat) (l1_1:List ByteArray) (a1_2:Bool) (a1_3:ByteArray) (r:Bool) (w:World) (hr0_1:Kd.C Kd.string w A0_1 l0_1.length l0_1) (hc0_1:l0_1.length ≤ c0_1) (hr1_1:Kd.C Kd.string w A1_1 l1_1.length l1_1) (hc1_1:l1_1.length ≤ c1_1) (h:laws_lpAddr.f k a0_0 l0_1 a0_2 a0_3 a1_0 l1_1 a1_2 a1_3 = some r) :
  Calls Tryd.prog 14 #[.agg #[.string a0_0, .slice A0_1 l0_1.length c0_1, .bool a0_2, .string a0_3], .agg #[.string a1_0, .slice A1_1 l1_1.length c1_1, .bool a1_2, .string a1_3]] w fun e w'=>e = .returned (.bool r) ∧ Below w.heap.size w w':=by
 have hu25:=Tryd.underlying25
 have HR0_1:=Am hr0_1
 have HC0_1:=Am hc0_1
 clear hr0_1 hc0_1
 have HR1_1:=Am hr1_1
 have HC1_1:=Am hc1_1
 clear hr1_1 hc1_1
 have HB:=Am (Below.refl w.heap.size w)
 have H:(if a0_0.toList = a1_0.toList then (if (a0_2 == a1_2) = true then (if a0_3.toList = a1_3.toList then ((laws_lpTexts.f k l0_1 l1_1).bind fun t105=>(some t105)) else (some false)) else (some false)) else (some false)) = some r:=h
 clear h
 by_cases c3:a0_0.toList = a1_0.toList
 ·rw [if_pos c3] at H
  have c3b0:(a0_0.toList == a1_0.toList) = true:=beq_iff_eq.mpr c3
  have c3b1:(a0_0.toList != a1_0.toList) = false:=bne_eq_false_iff_eq.mpr c3
  clear c3
  by_cases c4:(a0_2 == a1_2) = true
  ·rw [if_pos c4] at H
   have c4b0:(a0_2 == a1_2) = true:=c4
   (try (have c4b1:decide (a0_2 = a1_2) = true:=by simpa using c4))
   (try (have c4b2:(a0_2 == a1_2) = true:=by simpa using c4))
   clear c4
   by_cases c5:a0_3.toList = a1_3.toList
   ·rw [if_pos c5] at H
    have c5b0:(a0_3.toList == a1_3.toList) = true:=beq_iff_eq.mpr c5
    have c5b1:(a0_3.toList != a1_3.toList) = false:=bne_eq_false_iff_eq.mpr c5
    clear c5
    replace H:=bI H
    obtain ⟨t105,A60,H⟩:=H
    replace H:(some t105) = some r:=H
    have A6:=Am A60
    clear A60
    obtain rfl:=Option.some.inj H
    go_enter Tryd.func14,Tryd.ntmps14
    go_wp2_with (first|((with_reducible refine gate_dst (N:=2) rfl ?_);refine box_event ?hg (N:=2) ?hd (cs:=#[.string a0_0, .slice A0_1 l0_1.length c0_1, .bool a0_2, .string a0_3]) (t:=25) ?hr ?_;(case hd=>rfl);(case hg=>rfl);(case hr=>(go_simp <;> rfl));intro gb103 hg w7 hbox hb;have n0_:=Am (bT (by repeat (first|(with_reducible first|exact HB.out|apply bA|apply bN|apply bD)|exact HB.out)) hb);have n1_:=Am (hbox);have n2_:=Am ((by rw [hg];exact (bU (by repeat (first|(with_reducible first|exact HB.out|apply bA|apply bN|apply bD)|exact HB.out))):w.heap.size ≤ gb103));have n3_:=n2_;clear HB;have HB:=n0_;have BK103:=n1_;have GW103:=n2_;have GE103:=n3_;clear n0_ n1_ n2_ n3_ hb hbox hg)|((with_reducible refine gate_dst (N:=3) rfl ?_);refine box_event ?hg (N:=3) ?hd (cs:=#[.string a1_0, .slice A1_1 l1_1.length c1_1, .bool a1_2, .string a1_3]) (t:=25) ?hr ?_;(case hd=>rfl);(case hg=>rfl);(case hr=>(go_simp <;> rfl));intro gb104 hg w8 hbox hb;have n0_:=Am (blk_below (bB BK103.out) hb);have n1_:=Am (bT (by repeat (first|(with_reducible first|exact HB.out|apply bA|apply bN|apply bD|refine bS ?_ GE103.out)|exact HB.out)) hb);have n2_:=Am (hbox);have n3_:=Am ((by rw [hg];exact (bU (by repeat (first|(with_reducible first|exact HB.out|apply bA|apply bN|apply bD|refine bS ?_ GE103.out)|exact HB.out))):w.heap.size ≤ gb104));have n4_:=n3_;have n5_:=Am ((by rw [hg];exact Nat.ne_of_lt (blk_lt (bB BK103.out)):gb103 ≠ gb104));have n6_:=Am ((by rw [hg];exact Nat.ne_of_gt (blk_lt (bB BK103.out)):gb104 ≠ gb103));clear BK103 HB;have BK103:=n0_;have HB:=n1_;have BK104:=n2_;have GW104:=n3_;have GE104:=n4_;have NB103_104:=n5_;have NB104_103:=n6_;clear n0_ n1_ n2_ n3_ n4_ n5_ n6_ hb hbox hg;have hnb9:=NB103_104.out;have hnc9:=NB104_103.out;have hcz10_0:w8.cell? ⟨gb103,0,none⟩ = some (.string a0_0):=bM BK103.out 0 rfl;have hcz10_1:w8.cell? ⟨gb103,1,none⟩ = some (.slice A0_1 l0_1.length c0_1):=bM BK103.out 1 rfl;have hcz10_2:w8.cell? ⟨gb103,2,none⟩ = some (.bool a0_2):=bM BK103.out 2 rfl;have hcz10_3:w8.cell? ⟨gb103,3,none⟩ = some (.string a0_3):=bM BK103.out 3 rfl;have hfz10_0:=bZ BK103.out 0;have hfz10_1:=bZ BK103.out 1;have hfz10_2:=bZ BK103.out 2;have hfz10_3:=bZ BK103.out 3;have hcz11_0:w8.cell? ⟨gb104,0,none⟩ = some (.string a1_0):=bM BK104.out 0 rfl;have hcz11_1:w8.cell? ⟨gb104,1,none⟩ = some (.slice A1_1 l1_1.length c1_1):=bM BK104.out 1 rfl;have hcz11_2:w8.cell? ⟨gb104,2,none⟩ = some (.bool a1_2):=bM BK104.out 2 rfl;have hcz11_3:w8.cell? ⟨gb104,3,none⟩ = some (.string a1_3):=bM BK104.out 3 rfl;have hfz11_0:=bZ BK104.out 0;have hfz11_1:=bZ BK104.out 1;have hfz11_2:=bZ BK104.out 2;have hfz11_3:=bZ BK104.out 3)|(go_at_call 41;(with_reducible refine (laws_lpTexts.calls k _ _ l0_1 _ _ l1_1 t105 _ ?side1 ?side2 ?side3 ?side4 A6.out).mono ?_);(case side1=>repeat (first|exact (Kd.C_below HR0_1.out HB.out)|(with_reducible refine bC ?_)));(case side2=>exact HC0_1.out);(case side3=>repeat (first|exact (Kd.C_below HR1_1.out HB.out)|(with_reducible refine bC ?_)));(case side4=>exact HC1_1.out);rintro e w' ⟨rfl,⟨nd,rfl⟩⟩))
    go_ret
    exact ⟨by first|rfl|(simp <;> rfl)|(simp [*] <;> rfl),by repeat (first|(with_reducible first|exact HB.out|apply bA|apply bN|apply bD|refine bS ?_ GE103.out|refine bS ?_ GE104.out)|exact HB.out)⟩
   ·rw [if_neg c5] at H
    have c5b0:(a0_3.toList == a1_3.toList) = false:=beq_eq_false_iff_ne.mpr c5
    have c5b1:(a0_3.toList != a1_3.toList) = true:=bne_iff_ne.mpr c5
    obtain rfl:=Option.some.inj H
    go_enter Tryd.func14,Tryd.ntmps14
    go_wp2_with (first|((with_reducible refine gate_dst (N:=2) rfl ?_);refine box_event ?hg (N:=2) ?hd (cs:=#[.string a0_0, .slice A0_1 l0_1.length c0_1, .bool a0_2, .string a0_3]) (t:=25) ?hr ?_;(case hd=>rfl);(case hg=>rfl);(case hr=>(go_simp <;> rfl));intro gb103 hg w12 hbox hb;have n0_:=Am (bT (by repeat (first|(with_reducible first|exact HB.out|apply bA|apply bN|apply bD)|exact HB.out)) hb);have n1_:=Am (hbox);have n2_:=Am ((by rw [hg];exact (bU (by repeat (first|(with_reducible first|exact HB.out|apply bA|apply bN|apply bD)|exact HB.out))):w.heap.size ≤ gb103));have n3_:=n2_;clear HB;have HB:=n0_;have BK103:=n1_;have GW103:=n2_;have GE103:=n3_;clear n0_ n1_ n2_ n3_ hb hbox hg)|((with_reducible refine gate_dst (N:=3) rfl ?_);refine box_event ?hg (N:=3) ?hd (cs:=#[.string a1_0, .slice A1_1 l1_1.length c1_1, .bool a1_2, .string a1_3]) (t:=25) ?hr ?_;(case hd=>rfl);(case hg=>rfl);(case hr=>(go_simp <;> rfl));intro gb104 hg w13 hbox hb;have n0_:=Am (blk_below (bB BK103.out) hb);have n1_:=Am (bT (by repeat (first|(with_reducible first|exact HB.out|apply bA|apply bN|apply bD|refine bS ?_ GE103.out)|exact HB.out)) hb);have n2_:=Am (hbox);have n3_:=Am ((by rw [hg];exact (bU (by repeat (first|(with_reducible first|exact HB.out|apply bA|apply bN|apply bD|refine bS ?_ GE103.out)|exact HB.out))):w.heap.size ≤ gb104));have n4_:=n3_;have n5_:=Am ((by rw [hg];exact Nat.ne_of_lt (blk_lt (bB BK103.out)):gb103 ≠ gb104));have n6_:=Am ((by rw [hg];exact Nat.ne_of_gt (blk_lt (bB BK103.out)):gb104 ≠ gb103));clear BK103 HB;have BK103:=n0_;have HB:=n1_;have BK104:=n2_;have GW104:=n3_;have GE104:=n4_;have NB103_104:=n5_;have NB104_103:=n6_;clear n0_ n1_ n2_ n3_ n4_ n5_ n6_ hb hbox hg;have hnb14:=NB103_104.out;have hnc14:=NB104_103.out;have hcz15_0:w13.cell? ⟨gb103,0,none⟩ = some (.string a0_0):=bM BK103.out 0 rfl;have hcz15_1:w13.cell? ⟨gb103,1,none⟩ = some (.slice A0_1 l0_1.length c0_1):=bM BK103.out 1 rfl;have hcz15_2:w13.cell? ⟨gb103,2,none⟩ = some (.bool a0_2):=bM BK103.out 2 rfl;have hcz15_3:w13.cell? ⟨gb103,3,none⟩ = some (.string a0_3):=bM BK103.out 3 rfl;have hfz15_0:=bZ BK103.out 0;have hfz15_1:=bZ BK103.out 1;have hfz15_2:=bZ BK103.out 2;have hfz15_3:=bZ BK103.out 3;have hcz16_0:w13.cell? ⟨gb104,0,none⟩ = some (.string a1_0):=bM BK104.out 0 rfl;have hcz16_1:w13.cell? ⟨gb104,1,none⟩ = some (.slice A1_1 l1_1.length c1_1):=bM BK104.out 1 rfl;have hcz16_2:w13.cell? ⟨gb104,2,none⟩ = some (.bool a1_2):=bM BK104.out 2 rfl;have hcz16_3:w13.cell? ⟨gb104,3,none⟩ = some (.string a1_3):=bM BK104.out 3 rfl;have hfz16_0:=bZ BK104.out 0;have hfz16_1:=bZ BK104.out 1;have hfz16_2:=bZ BK104.out 2;have hfz16_3:=bZ BK104.out 3))
    go_ret
    exact ⟨by first|rfl|(simp <;> rfl)|(simp [*] <;> rfl),by repeat (first|(with_reducible first|exact HB.out|apply bA|apply bN|apply bD|refine bS ?_ GE103.out|refine bS ?_ GE104.out)|exact HB.out)⟩
  ·rw [if_neg c4] at H
   have c4b0:(a0_2 == a1_2) = false:=by simpa using c4
   (try (have c4b1:decide (a0_2 = a1_2) = false:=by simpa using c4))
   (try (have c4b2:(a0_2 == a1_2) = false:=by simpa using c4))
   (try (have c4b3:¬ (a0_2 = a1_2):=by simpa using c4))
   clear c4
   obtain rfl:=Option.some.inj H
   go_enter Tryd.func14,Tryd.ntmps14
   go_wp2_with (first|((with_reducible refine gate_dst (N:=2) rfl ?_);refine box_event ?hg (N:=2) ?hd (cs:=#[.string a0_0, .slice A0_1 l0_1.length c0_1, .bool a0_2, .string a0_3]) (t:=25) ?hr ?_;(case hd=>rfl);(case hg=>rfl);(case hr=>(go_simp <;> rfl));intro gb103 hg w17 hbox hb;have n0_:=Am (bT (by repeat (first|(with_reducible first|exact HB.out|apply bA|apply bN|apply bD)|exact HB.out)) hb);have n1_:=Am (hbox);have n2_:=Am ((by rw [hg];exact (bU (by repeat (first|(with_reducible first|exact HB.out|apply bA|apply bN|apply bD)|exact HB.out))):w.heap.size ≤ gb103));have n3_:=n2_;clear HB;have HB:=n0_;have BK103:=n1_;have GW103:=n2_;have GE103:=n3_;clear n0_ n1_ n2_ n3_ hb hbox hg)|((with_reducible refine gate_dst (N:=3) rfl ?_);refine box_event ?hg (N:=3) ?hd (cs:=#[.string a1_0, .slice A1_1 l1_1.length c1_1, .bool a1_2, .string a1_3]) (t:=25) ?hr ?_;(case hd=>rfl);(case hg=>rfl);(case hr=>(go_simp <;> rfl));intro gb104 hg w18 hbox hb;have n0_:=Am (blk_below (bB BK103.out) hb);have n1_:=Am (bT (by repeat (first|(with_reducible first|exact HB.out|apply bA|apply bN|apply bD|refine bS ?_ GE103.out)|exact HB.out)) hb);have n2_:=Am (hbox);have n3_:=Am ((by rw [hg];exact (bU (by repeat (first|(with_reducible first|exact HB.out|apply bA|apply bN|apply bD|refine bS ?_ GE103.out)|exact HB.out))):w.heap.size ≤ gb104));have n4_:=n3_;have n5_:=Am ((by rw [hg];exact Nat.ne_of_lt (blk_lt (bB BK103.out)):gb103 ≠ gb104));have n6_:=Am ((by rw [hg];exact Nat.ne_of_gt (blk_lt (bB BK103.out)):gb104 ≠ gb103));clear BK103 HB;have BK103:=n0_;have HB:=n1_;have BK104:=n2_;have GW104:=n3_;have GE104:=n4_;have NB103_104:=n5_;have NB104_103:=n6_;clear n0_ n1_ n2_ n3_ n4_ n5_ n6_ hb hbox hg;have hnb19:=NB103_104.out;have hnc19:=NB104_103.out;have hcz20_0:w18.cell? ⟨gb103,0,none⟩ = some (.string a0_0):=bM BK103.out 0 rfl;have hcz20_1:w18.cell? ⟨gb103,1,none⟩ = some (.slice A0_1 l0_1.length c0_1):=bM BK103.out 1 rfl;have hcz20_2:w18.cell? ⟨gb103,2,none⟩ = some (.bool a0_2):=bM BK103.out 2 rfl;have hcz20_3:w18.cell? ⟨gb103,3,none⟩ = some (.string a0_3):=bM BK103.out 3 rfl;have hfz20_0:=bZ BK103.out 0;have hfz20_1:=bZ BK103.out 1;have hfz20_2:=bZ BK103.out 2;have hfz20_3:=bZ BK103.out 3;have hcz21_0:w18.cell? ⟨gb104,0,none⟩ = some (.string a1_0):=bM BK104.out 0 rfl;have hcz21_1:w18.cell? ⟨gb104,1,none⟩ = some (.slice A1_1 l1_1.length c1_1):=bM BK104.out 1 rfl;have hcz21_2:w18.cell? ⟨gb104,2,none⟩ = some (.bool a1_2):=bM BK104.out 2 rfl;have hcz21_3:w18.cell? ⟨gb104,3,none⟩ = some (.string a1_3):=bM BK104.out 3 rfl;have hfz21_0:=bZ BK104.out 0;have hfz21_1:=bZ BK104.out 1;have hfz21_2:=bZ BK104.out 2;have hfz21_3:=bZ BK104.out 3))
   go_ret
   exact ⟨by first|rfl|(simp <;> rfl)|(simp [*] <;> rfl),by repeat (first|(with_reducible first|exact HB.out|apply bA|apply bN|apply bD|refine bS ?_ GE103.out|refine bS ?_ GE104.out)|exact HB.out)⟩
 ·rw [if_neg c3] at H
  have c3b0:(a0_0.toList == a1_0.toList) = false:=beq_eq_false_iff_ne.mpr c3
  have c3b1:(a0_0.toList != a1_0.toList) = true:=bne_iff_ne.mpr c3
  obtain rfl:=Option.some.inj H
  go_enter Tryd.func14,Tryd.ntmps14
  go_wp2_with (first|((with_reducible refine gate_dst (N:=2) rfl ?_);refine box_event ?hg (N:=2) ?hd (cs:=#[.string a0_0, .slice A0_1 l0_1.length c0_1, .bool a0_2, .string a0_3]) (t:=25) ?hr ?_;(case hd=>rfl);(case hg=>rfl);(case hr=>(go_simp <;> rfl));intro gb103 hg w22 hbox hb;have n0_:=Am (bT (by repeat (first|(with_reducible first|exact HB.out|apply bA|apply bN|apply bD)|exact HB.out)) hb);have n1_:=Am (hbox);have n2_:=Am ((by rw [hg];exact (bU (by repeat (first|(with_reducible first|exact HB.out|apply bA|apply bN|apply bD)|exact HB.out))):w.heap.size ≤ gb103));have n3_:=n2_;clear HB;have HB:=n0_;have BK103:=n1_;have GW103:=n2_;have GE103:=n3_;clear n0_ n1_ n2_ n3_ hb hbox hg)|((with_reducible refine gate_dst (N:=3) rfl ?_);refine box_event ?hg (N:=3) ?hd (cs:=#[.string a1_0, .slice A1_1 l1_1.length c1_1, .bool a1_2, .string a1_3]) (t:=25) ?hr ?_;(case hd=>rfl);(case hg=>rfl);(case hr=>(go_simp <;> rfl));intro gb104 hg w23 hbox hb;have n0_:=Am (blk_below (bB BK103.out) hb);have n1_:=Am (bT (by repeat (first|(with_reducible first|exact HB.out|apply bA|apply bN|apply bD|refine bS ?_ GE103.out)|exact HB.out)) hb);have n2_:=Am (hbox);have n3_:=Am ((by rw [hg];exact (bU (by repeat (first|(with_reducible first|exact HB.out|apply bA|apply bN|apply bD|refine bS ?_ GE103.out)|exact HB.out))):w.heap.size ≤ gb104));have n4_:=n3_;have n5_:=Am ((by rw [hg];exact Nat.ne_of_lt (blk_lt (bB BK103.out)):gb103 ≠ gb104));have n6_:=Am ((by rw [hg];exact Nat.ne_of_gt (blk_lt (bB BK103.out)):gb104 ≠ gb103));clear BK103 HB;have BK103:=n0_;have HB:=n1_;have BK104:=n2_;have GW104:=n3_;have GE104:=n4_;have NB103_104:=n5_;have NB104_103:=n6_;clear n0_ n1_ n2_ n3_ n4_ n5_ n6_ hb hbox hg;have hnb24:=NB103_104.out;have hnc24:=NB104_103.out;have hcz25_0:w23.cell? ⟨gb103,0,none⟩ = some (.string a0_0):=bM BK103.out 0 rfl;have hcz25_1:w23.cell? ⟨gb103,1,none⟩ = some (.slice A0_1 l0_1.length c0_1):=bM BK103.out 1 rfl;have hcz25_2:w23.cell? ⟨gb103,2,none⟩ = some (.bool a0_2):=bM BK103.out 2 rfl;have hcz25_3:w23.cell? ⟨gb103,3,none⟩ = some (.string a0_3):=bM BK103.out 3 rfl;have hfz25_0:=bZ BK103.out 0;have hfz25_1:=bZ BK103.out 1;have hfz25_2:=bZ BK103.out 2;have hfz25_3:=bZ BK103.out 3;have hcz26_0:w23.cell? ⟨gb104,0,none⟩ = some (.string a1_0):=bM BK104.out 0 rfl;have hcz26_1:w23.cell? ⟨gb104,1,none⟩ = some (.slice A1_1 l1_1.length c1_1):=bM BK104.out 1 rfl;have hcz26_2:w23.cell? ⟨gb104,2,none⟩ = some (.bool a1_2):=bM BK104.out 2 rfl;have hcz26_3:w23.cell? ⟨gb104,3,none⟩ = some (.string a1_3):=bM BK104.out 3 rfl;have hfz26_0:=bZ BK104.out 0;have hfz26_1:=bZ BK104.out 1;have hfz26_2:=bZ BK104.out 2;have hfz26_3:=bZ BK104.out 3))
  go_ret
  exact ⟨by first|rfl|(simp <;> rfl)|(simp [*] <;> rfl),by repeat (first|(with_reducible first|exact HB.out|apply bA|apply bN|apply bD|refine bS ?_ GE103.out|refine bS ?_ GE104.out)|exact HB.out)⟩

/-! ### spec_l6Open: function 29 -/
def spec_l6Open.f (l0:List Int):Option (List Int × Int):=if (l0.length:Int) > 2000 then (if 2000 ≤ (l0.length:Int) then (some (l0.take 2000,0)) else (none)) else (some (l0,0))
theorem spec_l6Open.calls (A0:Option Addr) (c0:Nat) (l0:List Int) (r1:List Int) (r2:Int) (w0 w:World) (hB:Below w0.heap.size w0 w) (hr0:Kd.C (Kd.int .u8) w0 A0 l0.length l0) (hc0:l0.length ≤ c0) (h:spec_l6Open.f l0 = some (r1,r2)) :
  Calls Tryd.prog 29 #[.slice A0 l0.length c0] w fun e w'=>∃ g_:Nat,e = .returned (.pointer (some ⟨g_,0,none⟩)) ∧ IsS60 w0 w' g_ r1 r2 ∧ Below w0.heap.size w0 w' ∧ Below w.heap.size w w':=by
 have hu60:=Tryd.underlying60
 have HR0:=Am hr0
 have HC0:=Am hc0
 clear hr0 hc0
 have HBW:=Am (Below.refl w.heap.size w)
 have HW0:=Am hB.size
 have HB:=Am hB
 clear hB
 have H:(if (l0.length:Int) > 2000 then (if 2000 ≤ (l0.length:Int) then (some (l0.take 2000,0)) else (none)) else (some (l0,0))) = some (r1,r2):=h
 clear h
 by_cases c2:(l0.length:Int) > 2000
 ·rw [if_pos c2] at H
  have c2b0:decide (2000 < (l0.length:Int)) = true:=decide_eq_true c2
  have c2b1:decide (2000 < l0.length) = true:=decide_eq_true (by omega)
  clear c2
  by_cases c3:2000 ≤ (l0.length:Int)
  ·rw [if_pos c3] at H
   have c3b0:=eq_true c3
   have c3b1:=decide_eq_true c3
   clear c3
   simp only [Option.some.injEq,Prod.mk.injEq] at H
   obtain ⟨rfl,rfl⟩:=H
   obtain ⟨i04,hi04,_,hsz4,_⟩:=info_parts info5
   obtain ⟨hcut4,hA4,hC4⟩:=print_take_of (P:=Tryd.prog) (Value.int .u8) 0 22 5 .i64 Tryd.underlying22 hi04 hsz4 A0 c0 l0 2000 (by omega) (oD (by assumption)) HC0.out
   have HR106:=Am (Kd.C_of_reads (h1:=fun _=>rfl) (hA4 _ (Kd.reads_of_C HR0.out)))
   have HC106:=Am hC4
   clear hA4 hC4 hi04 hsz4
   go_enter Tryd.func29,Tryd.ntmps29
   go_wp2_with (first|((with_reducible refine gate_dst (N:=10) rfl ?_);refine box_event ?hg (N:=10) ?hd (cs:=#[.slice A0 (l0.take 2000).length c0, .int .i64 0]) (t:=60) ?hr ?_;(case hd=>rfl);(case hg=>rfl);(case hr=>(go_simp <;> rfl));intro gb107 hg w5 hbox hb;have n0_:=Am (below_step HBW.out hb);have n1_:=Am (bT (by repeat (first|(with_reducible first|exact HB.out|apply bA|apply bN|apply bD)|exact HB.out)) hb);have n2_:=Am (hbox);have n3_:=Am ((by rw [hg];exact (bU (by repeat (first|(with_reducible first|exact HBW.out|apply bA|apply bN|apply bD)|exact HBW.out))):w.heap.size ≤ gb107));have n4_:=Am ((Nat.le_trans HW0.out (by rw [hg];exact (bU (by repeat (first|(with_reducible first|exact HBW.out|apply bA|apply bN|apply bD)|exact HBW.out))):w.heap.size ≤ gb107):w0.heap.size ≤ gb107));clear HBW HB;have HBW:=n0_;have HB:=n1_;have BK107:=n2_;have GW107:=n3_;have GE107:=n4_;clear n0_ n1_ n2_ n3_ n4_ hb hbox hg))
   go_ret
   exact ⟨_,rfl,(show IsS60 w0 _ gb107 (l0.take 2000) 0 from ⟨_,_,by refine bB ?_;exact BK107.out,GE107.out,HR106.out⟩),by repeat (first|(with_reducible first|exact HB.out|apply bA|apply bN|apply bD|refine bS ?_ GE107.out)|exact HB.out),by repeat (first|(with_reducible first|exact HBW.out|apply bA|apply bN|apply bD|refine bS ?_ GW107.out)|exact HBW.out)⟩
  ·rw [if_neg c3] at H
   exact absurd H (by simp)
 ·rw [if_neg c2] at H
  have c2b0:decide (2000 < (l0.length:Int)) = false:=decide_eq_false c2
  have c2b1:decide (2000 < l0.length) = false:=decide_eq_false (by omega)
  clear c2
  simp only [Option.some.injEq,Prod.mk.injEq] at H
  obtain ⟨rfl,rfl⟩:=H
  go_enter Tryd.func29,Tryd.ntmps29
  go_wp2_with (first|((with_reducible refine gate_dst (N:=10) rfl ?_);refine box_event ?hg (N:=10) ?hd (cs:=#[.slice A0 l0.length c0, .int .i64 0]) (t:=60) ?hr ?_;(case hd=>rfl);(case hg=>rfl);(case hr=>(go_simp <;> rfl));intro gb108 hg w6 hbox hb;have n0_:=Am (below_step HBW.out hb);have n1_:=Am (bT (by repeat (first|(with_reducible first|exact HB.out|apply bA|apply bN|apply bD)|exact HB.out)) hb);have n2_:=Am (hbox);have n3_:=Am ((by rw [hg];exact (bU (by repeat (first|(with_reducible first|exact HBW.out|apply bA|apply bN|apply bD)|exact HBW.out))):w.heap.size ≤ gb108));have n4_:=Am ((Nat.le_trans HW0.out (by rw [hg];exact (bU (by repeat (first|(with_reducible first|exact HBW.out|apply bA|apply bN|apply bD)|exact HBW.out))):w.heap.size ≤ gb108):w0.heap.size ≤ gb108));clear HBW HB;have HBW:=n0_;have HB:=n1_;have BK108:=n2_;have GW108:=n3_;have GE108:=n4_;clear n0_ n1_ n2_ n3_ n4_ hb hbox hg))
  go_ret
  exact ⟨_,rfl,(show IsS60 w0 _ gb108 l0 0 from ⟨_,_,by refine bB ?_;exact BK108.out,GE108.out,HR0.out⟩),by repeat (first|(with_reducible first|exact HB.out|apply bA|apply bN|apply bD|refine bS ?_ GE108.out)|exact HB.out),by repeat (first|(with_reducible first|exact HBW.out|apply bA|apply bN|apply bD|refine bS ?_ GW108.out)|exact HBW.out)⟩

/-! ### spec_l6Rd_pick: function 52 -/
def spec_l6Rd_pick.j0:Nat → Int → Bool → List Int → Int → Option (Int × Int)
 | 0,_,_,_,_=>none
 | k + 1,x1,x24,x1000,x1001=>if x24 = true then (some (0,x1001)) else (if (wrap64 (x1001 - 1)) < (x1000.length:Int) then (if 0 ≤ (wrap64 (x1001 - 1)) then (if x1 = 0 then (none) else (some (Int.tmod (wrap64 (rd x1000 (wrap64 (x1001 - 1)))) x1,x1001))) else (none)) else (if (x1000.length:Int) = 0 then (none) else (if 0 ≤ (Int.tmod (wrap64 (x1001 - 1)) (x1000.length:Int)) then (if (Int.tmod (wrap64 (x1001 - 1)) (x1000.length:Int)) < (x1000.length:Int) then (if 0 ≤ (Int.tmod (wrap64 ((wrap64 ((wrap64 (x1001 - 1)) * 7)) + 3)) (x1000.length:Int)) then (if (Int.tmod (wrap64 ((wrap64 ((wrap64 (x1001 - 1)) * 7)) + 3)) (x1000.length:Int)) < (x1000.length:Int) then (if x1 = 0 then (none) else (some (Int.tmod (Go.bits .xor .i64 (wrap64 ((wrap64 ((wrap64 ((wrap64 ((wrap64 (rd x1000 (Int.tmod (wrap64 (x1001 - 1)) (x1000.length:Int)))) * 131)) + (wrap64 ((wrap64 (rd x1000 (Int.tmod (wrap64 ((wrap64 ((wrap64 (x1001 - 1)) * 7)) + 3)) (x1000.length:Int)))) * 1117)))) + (wrap64 ((wrap64 (x1001 - 1)) * 29)))) + (wrap64 ((wrap64 (Int.tdiv (wrap64 (x1001 - 1)) (x1000.length:Int))) * 53)))) (wrap64 (Int.tdiv (wrap64 ((wrap64 ((wrap64 ((wrap64 ((wrap64 (rd x1000 (Int.tmod (wrap64 (x1001 - 1)) (x1000.length:Int)))) * 131)) + (wrap64 ((wrap64 (rd x1000 (Int.tmod (wrap64 ((wrap64 ((wrap64 (x1001 - 1)) * 7)) + 3)) (x1000.length:Int)))) * 1117)))) + (wrap64 ((wrap64 (x1001 - 1)) * 29)))) + (wrap64 ((wrap64 (Int.tdiv (wrap64 (x1001 - 1)) (x1000.length:Int))) * 53)))) 64))) x1,x1001))) else (none)) else (none)) else (none)) else (none))))
def spec_l6Rd_pick.f (k:Nat) (s0_0:List Int) (s0_1:Int) (a1:Int):Option (Int × Int):=if a1 < 1 then (spec_l6Rd_pick.j0 k a1 true s0_0 (wrap64 (s0_1 + 1))) else (spec_l6Rd_pick.j0 k a1 ((s0_0.length:Int) == 0) s0_0 (wrap64 (s0_1 + 1)))
theorem spec_l6Rd_pick.mono_l:∀ k,(∀ y0 y1 y2 y3,LeO (spec_l6Rd_pick.j0 k y0 y1 y2 y3) (spec_l6Rd_pick.j0 (k + 1) y0 y1 y2 y3))
 | 0=>fun _ _ _ _ r h=>by simp [spec_l6Rd_pick.j0] at h
 | k + 1=>by
  have ih0:=spec_l6Rd_pick.mono_l k
  ·intro y0 y1 y2 y3
   unfold spec_l6Rd_pick.j0
   repeat' first
   | (with_reducible apply ih0)
   | (with_reducible exact LeO.refl _)
   | (with_reducible exact LeO.none _)
   | (with_reducible refine LeO.ite ?_ ?_)
   | (with_reducible refine LeO.bind ?_ (fun _=>?_))
   | exact ih0 _ _ _ _
   | exact LeO.none _
   | refine LeO.ite ?_ ?_
   | refine LeO.bind ?_ (fun _=>?_)
theorem spec_l6Rd_pick.mono:∀ a0 a1 a2 k,LeO (spec_l6Rd_pick.f k a0 a1 a2) (spec_l6Rd_pick.f (k + 1) a0 a1 a2):=by
 intro a0 a1 a2 k
 have ih0:=spec_l6Rd_pick.mono_l k
 unfold spec_l6Rd_pick.f
 repeat' first
   | (with_reducible apply ih0)
   | (with_reducible exact LeO.refl _)
   | (with_reducible exact LeO.none _)
   | (with_reducible refine LeO.ite ?_ ?_)
   | (with_reducible refine LeO.bind ?_ (fun _=>?_))
   | exact ih0 _ _ _ _
   | exact LeO.none _
   | refine LeO.ite ?_ ?_
   | refine LeO.bind ?_ (fun _=>?_)
theorem spec_l6Rd_pick.calls (k:Nat) (g:Nat) (s0_0:List Int) (s0_1:Int) (a1:Int) (r1:Int) (r2:Int) (w0 w:World) (hI:IsS60 w0 w g s0_0 s0_1) (hB:Below w0.heap.size w0 w) (h:spec_l6Rd_pick.f k s0_0 s0_1 a1 = some (r1,r2)) :
  Calls Tryd.prog 52 #[.pointer (some ⟨g,0,none⟩), .int .i64 a1] w fun e w'=>e = .returned (.int .i64 r1) ∧ IsS60 w0 w' g s0_0 r2 ∧ Below w0.heap.size w0 w' ∧ KeepBut w w' g none:=by
 have HI0:=Am hI
 have HK:=Am (KeepBut.refl w g none)
 have HL:=Am hB.size
 clear hI
 have HW0:=Am hB.size
 have HB:=Am hB
 clear hB
 have H:(if a1 < 1 then (spec_l6Rd_pick.j0 k a1 true s0_0 (wrap64 (s0_1 + 1))) else (spec_l6Rd_pick.j0 k a1 ((s0_0.length:Int) == 0) s0_0 (wrap64 (s0_1 + 1)))) = some (r1,r2):=h
 clear h
 have HC3:=Am H
 clear H
 obtain ⟨ASz4_0,cSz4_0,HGz4,hgz4,HSz4_0⟩:=HI0.out
 have hcz4_0:=cellS60_0 HGz4
 have hcz4_1:=cellS60_1 HGz4
 have hfz4_1:=blk_frozen HGz4 1
 clear HGz4 hgz4
 go_enter Tryd.func52,Tryd.ntmps52
 go_upto_region 2 with (fail)
 repeat (go_quiet (fail);go_upto_region 2 with (fail))
 go_cut [24] (fun v24 wc=>∃ (kq:Nat) (x24_2:Bool),v24 = .bool x24_2 ∧ Aside0 (spec_l6Rd_pick.j0 kq a1 x24_2 s0_0 (wrap64 (s0_1 + 1)) = some (r1,r2)) ∧ Aside0 (kq ≤ k) ∧ Aside0 (IsS60 w0 wc g s0_0 (wrap64 (s0_1 + 1))) ∧ Aside0 (KeepBut w wc g none) ∧ Aside0 (Below w0.heap.size w0 wc))
 case first =>
  have H:=HC3.out
  clear HC3
  by_cases c5:a1 < 1
  ·rw [if_pos c5] at H
   have c5b0:decide (a1 < 1) = true:=decide_eq_true c5
   clear c5
   (first|rw [c5b0]|(simp only [i64_w,i32_w];rw [c5b0])|skip)
   have H':=Am H
   clear H
   go_wp2
   repeat (go_quiet (fail);try go_wp2)
   go_meet
   case rel=>exact ⟨_,(true),(by first|rfl|(simp;done)|(simp only [i64_w,i32_w] <;> rfl)|(simp [*];done)|(simp [emp_bne,emp_beq];done)),H',⟨by first|omega|exact Nat.le_refl _⟩,⟨by repeat (first|(with_reducible first|exact HI0.out|apply IsS60.alloc|apply IsS60.drewN|apply IsS60.drew|apply IsS60.set_1)|exact HI0.out)⟩,⟨by repeat (first|(with_reducible first|exact HK.out|apply KeepBut.set_|apply kN|apply kD|apply kA)|exact HK.out)⟩,⟨by repeat (first|(with_reducible first|exact HB.out|apply bA|apply bN|apply bD|refine bS ?_ (IsS60.ge HI0.out))|exact HB.out)⟩⟩
  ·rw [if_neg c5] at H
   have c5b0:decide (a1 < 1) = false:=decide_eq_false c5
   clear c5
   (first|rw [c5b0]|(simp only [i64_w,i32_w];rw [c5b0])|skip)
   have H':=Am H
   clear H
   obtain ⟨ASz6_0,cSz6_0,HGz6,hgz6,HSz6_0⟩:=HI0.out
   have hcz6_0:=cellS60_0 HGz6
   have hcz6_1:=cellS60_1 HGz6
   have hfz6_1:=blk_frozen HGz6 1
   clear HGz6 hgz6
   go_wp2
   repeat (go_quiet (fail);try go_wp2)
   go_meet
   case rel=>exact ⟨_,(((s0_0.length:Int) == 0)),(by first|rfl|(simp;done)|(simp only [i64_w,i32_w] <;> rfl)|(simp [*];done)|(simp [emp_bne,emp_beq];done)),H',⟨by first|omega|exact Nat.le_refl _⟩,⟨by repeat (first|(with_reducible first|exact HI0.out|apply IsS60.alloc|apply IsS60.drewN|apply IsS60.drew|apply IsS60.set_1)|exact HI0.out)⟩,⟨by repeat (first|(with_reducible first|exact HK.out|apply KeepBut.set_|apply kN|apply kD|apply kA)|exact HK.out)⟩,⟨by repeat (first|(with_reducible first|exact HB.out|apply bA|apply bN|apply bD|refine bS ?_ (IsS60.ge HI0.out))|exact HB.out)⟩⟩
 case rest =>
  clear HC3
  try clear p2
  try clear c5
  try clear c5b0
  try clear p6
  try clear hcz4_0
  try clear hcz4_1
  try clear hcz6_0
  try clear hcz6_1
  try clear hfz4_1
  try clear hfz6_1
  obtain ⟨kq,x24_2,rfl,HA,HJ2,HI0,HK,HB⟩:=hcut
  cases kq with
  | zero=>exact absurd HA.out (by simp [spec_l6Rd_pick.j0])
  | succ kj2 =>
   have H:=HA.out
   clear HA
   simp only [spec_l6Rd_pick.j0] at H
   by_cases c7:x24_2 = true
   ·subst c7
    have H1:(some (0,(wrap64 (s0_1 + 1)))) = some (r1,r2):=by rw [if_pos rfl] at H;exact H
    clear H
    have H:=H1
    clear H1
    simp only [Option.some.injEq,Prod.mk.injEq] at H
    obtain ⟨rfl,rfl⟩:=H
    go_wp2
    repeat (go_quiet (fail);try go_wp2)
    go_ret
    exact ⟨by first|rfl|(simp <;> rfl)|(simp [*] <;> rfl),by repeat (first|(with_reducible first|exact HI0.out|apply IsS60.alloc|apply IsS60.drewN|apply IsS60.drew|apply IsS60.set_1)|exact HI0.out),by repeat (first|(with_reducible first|exact HB.out|apply bA|apply bN|apply bD|refine bS ?_ (IsS60.ge HI0.out))|exact HB.out),by repeat (first|(with_reducible first|exact HK.out|apply KeepBut.set_|apply kN|apply kD|apply kA)|exact HK.out)⟩
   ·replace c7:=Bool.eq_false_iff.mpr c7
    subst c7
    have H1:(if (wrap64 ((wrap64 (s0_1 + 1)) - 1)) < (s0_0.length:Int) then (if 0 ≤ (wrap64 ((wrap64 (s0_1 + 1)) - 1)) then (if a1 = 0 then (none) else (some (Int.tmod (wrap64 (rd s0_0 (wrap64 ((wrap64 (s0_1 + 1)) - 1)))) a1,(wrap64 (s0_1 + 1))))) else (none)) else (if (s0_0.length:Int) = 0 then (none) else (if 0 ≤ (Int.tmod (wrap64 ((wrap64 (s0_1 + 1)) - 1)) (s0_0.length:Int)) then (if (Int.tmod (wrap64 ((wrap64 (s0_1 + 1)) - 1)) (s0_0.length:Int)) < (s0_0.length:Int) then (if 0 ≤ (Int.tmod (wrap64 ((wrap64 ((wrap64 ((wrap64 (s0_1 + 1)) - 1)) * 7)) + 3)) (s0_0.length:Int)) then (if (Int.tmod (wrap64 ((wrap64 ((wrap64 ((wrap64 (s0_1 + 1)) - 1)) * 7)) + 3)) (s0_0.length:Int)) < (s0_0.length:Int) then (if a1 = 0 then (none) else (some (Int.tmod (Go.bits .xor .i64 (wrap64 ((wrap64 ((wrap64 ((wrap64 ((wrap64 (rd s0_0 (Int.tmod (wrap64 ((wrap64 (s0_1 + 1)) - 1)) (s0_0.length:Int)))) * 131)) + (wrap64 ((wrap64 (rd s0_0 (Int.tmod (wrap64 ((wrap64 ((wrap64 ((wrap64 (s0_1 + 1)) - 1)) * 7)) + 3)) (s0_0.length:Int)))) * 1117)))) + (wrap64 ((wrap64 ((wrap64 (s0_1 + 1)) - 1)) * 29)))) + (wrap64 ((wrap64 (Int.tdiv (wrap64 ((wrap64 (s0_1 + 1)) - 1)) (s0_0.length:Int))) * 53)))) (wrap64 (Int.tdiv (wrap64 ((wrap64 ((wrap64 ((wrap64 ((wrap64 (rd s0_0 (Int.tmod (wrap64 ((wrap64 (s0_1 + 1)) - 1)) (s0_0.length:Int)))) * 131)) + (wrap64 ((wrap64 (rd s0_0 (Int.tmod (wrap64 ((wrap64 ((wrap64 ((wrap64 (s0_1 + 1)) - 1)) * 7)) + 3)) (s0_0.length:Int)))) * 1117)))) + (wrap64 ((wrap64 ((wrap64 (s0_1 + 1)) - 1)) * 29)))) + (wrap64 ((wrap64 (Int.tdiv (wrap64 ((wrap64 (s0_1 + 1)) - 1)) (s0_0.length:Int))) * 53)))) 64))) a1,(wrap64 (s0_1 + 1))))) else (none)) else (none)) else (none)) else (none)))) = some (r1,r2):=by rw [if_neg (show ¬ (false = true) by decide)] at H;exact H
    clear H
    have H:=H1
    clear H1
    by_cases c8:(wrap64 ((wrap64 (s0_1 + 1)) - 1)) < (s0_0.length:Int)
    ·rw [if_pos c8] at H
     have c8b0:decide ((wrap64 ((wrap64 (s0_1 + 1)) - 1)) < (s0_0.length:Int)) = true:=decide_eq_true c8
     clear c8
     obtain ⟨ji9,hji9⟩:∃ j_:Int,(wrap64 ((wrap64 (s0_1 + 1)) - 1)) = j_:=⟨_,rfl⟩
     replace H:(if 0 ≤ (ji9) then (if a1 = 0 then (none) else (some (Int.tmod (wrap64 (rd s0_0 (ji9))) a1,(wrap64 (s0_1 + 1))))) else (none)) = some (r1,r2):=by first|(rw [hji9] at H;exact H)|(simp only [hji9] at H ⊢;exact H)
     (try rw [hji9] at c8b0)
     have hji9w:(IntKind.i64.wrap ((wrap64 (s0_1 + 1)) - 1)) = ji9:=(i64_w _).trans hji9
     by_cases c10:0 ≤ (ji9)
     ·rw [if_pos c10] at H
      have c10b0:decide (0 ≤ (ji9)) = true:=decide_eq_true c10
      clear c10
      by_cases c11:a1 = 0
      ·rw [if_pos c11] at H
       exact absurd H (by simp)
      ·rw [if_neg c11] at H
       have c11b0:(a1 == 0) = false:=beq_eq_false_iff_ne.mpr c11
       have c11b1:(a1 != 0) = true:=bne_iff_ne.mpr c11
       simp only [Option.some.injEq,Prod.mk.injEq] at H
       obtain ⟨rfl,rfl⟩:=H
       obtain ⟨ASz12_0,cSz12_0,HGz12,hgz12,HSz12_0⟩:=HI0.out
       have hcz12_0:=cellS60_0 HGz12
       have hcz12_1:=cellS60_1 HGz12
       have hfz12_1:=blk_frozen HGz12 1
       clear HGz12 hgz12
       have p109:0 ≤ ((ji9):Int):=oD (by assumption)
       have q109:(ji9) < (s0_0.length:Int):=oD (by assumption)
       obtain ⟨ad109,e109,hx109_0⟩:=Kd.at_int HSz12_0 (ji9) p109 q109
       cases e109
       replace hx109_0:=pw_cell_below HB.out hx109_0
       replace p109:=eq_true p109
       replace q109:=eq_true q109
       go_wp2
       repeat (go_quiet (fail);try go_wp2)
       go_ret
       exact ⟨by first|rfl|(simp <;> rfl)|(simp only [← hji9];first|rfl|(simp <;> rfl))|(simp [*] <;> rfl),by repeat (first|(with_reducible first|exact HI0.out|apply IsS60.alloc|apply IsS60.drewN|apply IsS60.drew|apply IsS60.set_1)|exact HI0.out),by repeat (first|(with_reducible first|exact HB.out|apply bA|apply bN|apply bD|refine bS ?_ (IsS60.ge HI0.out))|exact HB.out),by repeat (first|(with_reducible first|exact HK.out|apply KeepBut.set_|apply kN|apply kD|apply kA)|exact HK.out)⟩
     ·rw [if_neg c10] at H
      exact absurd H (by simp)
    ·rw [if_neg c8] at H
     have c8b0:decide ((wrap64 ((wrap64 (s0_1 + 1)) - 1)) < (s0_0.length:Int)) = false:=decide_eq_false c8
     clear c8
     by_cases c13:(s0_0.length:Int) = 0
     ·rw [if_pos c13] at H
      exact absurd H (by simp)
     ·rw [if_neg c13] at H
      have c13b0:((s0_0.length:Int) == 0) = false:=beq_eq_false_iff_ne.mpr c13
      have c13b1:((s0_0.length:Int) != 0) = true:=bne_iff_ne.mpr c13
      have c13b2:¬ (s0_0 = []):=fun h_=>c13 (by rw [h_];rfl)
      obtain ⟨ji14,hji14⟩:∃ j_:Int,(Int.tmod (wrap64 ((wrap64 (s0_1 + 1)) - 1)) (s0_0.length:Int)) = j_:=⟨_,rfl⟩
      replace H:(if 0 ≤ (ji14) then (if (ji14) < (s0_0.length:Int) then (if 0 ≤ (Int.tmod (wrap64 ((wrap64 ((wrap64 ((wrap64 (s0_1 + 1)) - 1)) * 7)) + 3)) (s0_0.length:Int)) then (if (Int.tmod (wrap64 ((wrap64 ((wrap64 ((wrap64 (s0_1 + 1)) - 1)) * 7)) + 3)) (s0_0.length:Int)) < (s0_0.length:Int) then (if a1 = 0 then (none) else (some (Int.tmod (Go.bits .xor .i64 (wrap64 ((wrap64 ((wrap64 ((wrap64 ((wrap64 (rd s0_0 (ji14))) * 131)) + (wrap64 ((wrap64 (rd s0_0 (Int.tmod (wrap64 ((wrap64 ((wrap64 ((wrap64 (s0_1 + 1)) - 1)) * 7)) + 3)) (s0_0.length:Int)))) * 1117)))) + (wrap64 ((wrap64 ((wrap64 (s0_1 + 1)) - 1)) * 29)))) + (wrap64 ((wrap64 (Int.tdiv (wrap64 ((wrap64 (s0_1 + 1)) - 1)) (s0_0.length:Int))) * 53)))) (wrap64 (Int.tdiv (wrap64 ((wrap64 ((wrap64 ((wrap64 ((wrap64 (rd s0_0 (ji14))) * 131)) + (wrap64 ((wrap64 (rd s0_0 (Int.tmod (wrap64 ((wrap64 ((wrap64 ((wrap64 (s0_1 + 1)) - 1)) * 7)) + 3)) (s0_0.length:Int)))) * 1117)))) + (wrap64 ((wrap64 ((wrap64 (s0_1 + 1)) - 1)) * 29)))) + (wrap64 ((wrap64 (Int.tdiv (wrap64 ((wrap64 (s0_1 + 1)) - 1)) (s0_0.length:Int))) * 53)))) 64))) a1,(wrap64 (s0_1 + 1))))) else (none)) else (none)) else (none)) else (none)) = some (r1,r2):=by first|(rw [hji14] at H;exact H)|(simp only [hji14] at H ⊢;exact H)
      by_cases c15:0 ≤ (ji14)
      ·rw [if_pos c15] at H
       have c15b0:decide (0 ≤ (ji14)) = true:=decide_eq_true c15
       clear c15
       by_cases c16:(ji14) < (s0_0.length:Int)
       ·rw [if_pos c16] at H
        have c16b0:decide ((ji14) < (s0_0.length:Int)) = true:=decide_eq_true c16
        clear c16
        obtain ⟨ji17,hji17⟩:∃ j_:Int,(Int.tmod (wrap64 ((wrap64 ((wrap64 ((wrap64 (s0_1 + 1)) - 1)) * 7)) + 3)) (s0_0.length:Int)) = j_:=⟨_,rfl⟩
        replace H:(if 0 ≤ (ji17) then (if (ji17) < (s0_0.length:Int) then (if a1 = 0 then (none) else (some (Int.tmod (Go.bits .xor .i64 (wrap64 ((wrap64 ((wrap64 ((wrap64 ((wrap64 (rd s0_0 (ji14))) * 131)) + (wrap64 ((wrap64 (rd s0_0 (ji17))) * 1117)))) + (wrap64 ((wrap64 ((wrap64 (s0_1 + 1)) - 1)) * 29)))) + (wrap64 ((wrap64 (Int.tdiv (wrap64 ((wrap64 (s0_1 + 1)) - 1)) (s0_0.length:Int))) * 53)))) (wrap64 (Int.tdiv (wrap64 ((wrap64 ((wrap64 ((wrap64 ((wrap64 (rd s0_0 (ji14))) * 131)) + (wrap64 ((wrap64 (rd s0_0 (ji17))) * 1117)))) + (wrap64 ((wrap64 ((wrap64 (s0_1 + 1)) - 1)) * 29)))) + (wrap64 ((wrap64 (Int.tdiv (wrap64 ((wrap64 (s0_1 + 1)) - 1)) (s0_0.length:Int))) * 53)))) 64))) a1,(wrap64 (s0_1 + 1))))) else (none)) else (none)) = some (r1,r2):=by first|(rw [hji17] at H;exact H)|(simp only [hji17] at H ⊢;exact H)
        by_cases c18:0 ≤ (ji17)
        ·rw [if_pos c18] at H
         have c18b0:decide (0 ≤ (ji17)) = true:=decide_eq_true c18
         clear c18
         by_cases c19:(ji17) < (s0_0.length:Int)
         ·rw [if_pos c19] at H
          have c19b0:decide ((ji17) < (s0_0.length:Int)) = true:=decide_eq_true c19
          clear c19
          by_cases c20:a1 = 0
          ·rw [if_pos c20] at H
           exact absurd H (by simp)
          ·rw [if_neg c20] at H
           have c20b0:(a1 == 0) = false:=beq_eq_false_iff_ne.mpr c20
           have c20b1:(a1 != 0) = true:=bne_iff_ne.mpr c20
           simp only [Option.some.injEq,Prod.mk.injEq] at H
           obtain ⟨rfl,rfl⟩:=H
           obtain ⟨ASz21_0,cSz21_0,HGz21,hgz21,HSz21_0⟩:=HI0.out
           have hcz21_0:=cellS60_0 HGz21
           have hcz21_1:=cellS60_1 HGz21
           have hfz21_1:=blk_frozen HGz21 1
           clear HGz21 hgz21
           have p110:0 ≤ ((ji14):Int):=oD (by assumption)
           have q110:(ji14) < (s0_0.length:Int):=oD (by assumption)
           obtain ⟨ad110,e110,hx110_0⟩:=Kd.at_int HSz21_0 (ji14) p110 q110
           cases e110
           replace hx110_0:=pw_cell_below HB.out hx110_0
           replace p110:=eq_true p110
           replace q110:=eq_true q110
           have p111:0 ≤ ((ji17):Int):=oD (by assumption)
           have q111:(ji17) < (s0_0.length:Int):=oD (by assumption)
           obtain ⟨ad111,e111,hx111_0⟩:=Kd.at_int HSz21_0 (ji17) p111 q111
           obtain rfl:ad110 = ad111:=(by injection e111)
           replace hx111_0:=pw_cell_below HB.out hx111_0
           replace p111:=eq_true p111
           replace q111:=eq_true q111
           go_wp2
           repeat (go_quiet (fail);try go_wp2)
           go_ret
           exact ⟨by first|rfl|(simp <;> rfl)|(simp only [← hji14,← hji17];first|rfl|(simp <;> rfl))|(simp [*] <;> rfl),by repeat (first|(with_reducible first|exact HI0.out|apply IsS60.alloc|apply IsS60.drewN|apply IsS60.drew|apply IsS60.set_1)|exact HI0.out),by repeat (first|(with_reducible first|exact HB.out|apply bA|apply bN|apply bD|refine bS ?_ (IsS60.ge HI0.out))|exact HB.out),by repeat (first|(with_reducible first|exact HK.out|apply KeepBut.set_|apply kN|apply kD|apply kA)|exact HK.out)⟩
         ·rw [if_neg c19] at H
          exact absurd H (by simp)
        ·rw [if_neg c18] at H
         exact absurd H (by simp)
       ·rw [if_neg c16] at H
        exact absurd H (by simp)
      ·rw [if_neg c15] at H
       exact absurd H (by simp)

/-! ### spec_l6Rd_of: function 53 -/
def spec_l6Rd_of.f (k:Nat) (s0_0:List Int) (s0_1:Int) (l1:List ByteArray):Option (ByteArray × Int):=(spec_l6Rd_pick.f k s0_0 s0_1 (l1.length:Int)).bind fun bt112=>(if 0 ≤ bt112.1 then (if bt112.1 < (l1.length:Int) then (some (rdOf ByteArray.empty l1 bt112.1,bt112.2)) else (none)) else (none))
theorem spec_l6Rd_of.mono:∀ a0 a1 a2 k,LeO (spec_l6Rd_of.f k a0 a1 a2) (spec_l6Rd_of.f (k + 1) a0 a1 a2):=by
 intro a0 a1 a2 k
 unfold spec_l6Rd_of.f
 repeat' first
   | (with_reducible apply spec_l6Rd_pick.mono)
   | (with_reducible exact LeO.refl _)
   | (with_reducible exact LeO.none _)
   | (with_reducible refine LeO.ite ?_ ?_)
   | (with_reducible refine LeO.bind ?_ (fun _=>?_))
   | exact spec_l6Rd_pick.mono _ _ _ _
   | exact LeO.none _
   | refine LeO.ite ?_ ?_
   | refine LeO.bind ?_ (fun _=>?_)
theorem spec_l6Rd_of.calls (k:Nat) (g:Nat) (s0_0:List Int) (s0_1:Int) (A1:Option Addr) (c1:Nat) (l1:List ByteArray) (r1:ByteArray) (r2:Int) (w0 w:World) (hI:IsS60 w0 w g s0_0 s0_1) (hB:Below w0.heap.size w0 w) (hr1:Kd.C Kd.string w A1 l1.length l1) (hc1:l1.length ≤ c1) (hf1:∀ ad,A1 = some ad → 0 < l1.length → ad.block ≠ g) (h:spec_l6Rd_of.f k s0_0 s0_1 l1 = some (r1,r2)) :
  Calls Tryd.prog 53 #[.pointer (some ⟨g,0,none⟩), .slice A1 l1.length c1] w fun e w'=>e = .returned (.string r1) ∧ IsS60 w0 w' g s0_0 r2 ∧ Below w0.heap.size w0 w' ∧ KeepBut w w' g none:=by
 have HR1:=Am hr1
 have HC1:=Am hc1
 clear hr1 hc1
 have HI0:=Am hI
 have HK:=Am (KeepBut.refl w g none)
 have HL:=Am hB.size
 clear hI
 have HW0:=Am hB.size
 have HB:=Am hB
 clear hB
 have H:((spec_l6Rd_pick.f k s0_0 s0_1 (l1.length:Int)).bind fun bt112=>(if 0 ≤ bt112.1 then (if bt112.1 < (l1.length:Int) then (some (rdOf ByteArray.empty l1 bt112.1,bt112.2)) else (none)) else (none))) = some (r1,r2):=h
 clear h
 replace H:=bI H
 obtain ⟨⟨t112,t113⟩,A30,H⟩:=H
 replace H:(if 0 ≤ t112 then (if t112 < (l1.length:Int) then (some (rdOf ByteArray.empty l1 t112,t113)) else (none)) else (none)) = some (r1,r2):=H
 have A3:=Am A30
 clear A30
 by_cases c4:0 ≤ t112
 ·rw [if_pos c4] at H
  have c4b0:decide (0 ≤ t112) = true:=decide_eq_true c4
  clear c4
  by_cases c5:t112 < (l1.length:Int)
  ·rw [if_pos c5] at H
   have c5b0:decide (t112 < (l1.length:Int)) = true:=decide_eq_true c5
   clear c5
   simp only [Option.some.injEq,Prod.mk.injEq] at H
   obtain ⟨rfl,rfl⟩:=H
   go_enter Tryd.func53,Tryd.ntmps53
   go_wp2_with (first|((with_reducible refine gate_callee (f:=52) rfl ?_);refine goesL_ (some 9) rfl rfl Tryd.func52 (by kernel_rfl) rfl #[.pointer (some ⟨g,0,none⟩), .int .i64 (l1.length:Int)] rfl (aE2 rfl rfl) ?_;(with_reducible refine (spec_l6Rd_pick.calls k g s0_0 s0_1 (l1.length:Int) t112 t113 w0 _ ?side1 ?side2 A3.out).mono ?_);(case side1=>repeat (first|(with_reducible first|exact HI0.out|apply IsS60.alloc|apply IsS60.drewN|apply IsS60.drew|apply IsS60.set_1)|exact HI0.out));(case side2=>repeat (first|(with_reducible first|exact HB.out|apply bA|apply bN|apply bD|refine bS ?_ (IsS60.ge HI0.out))|exact HB.out));rintro e w6 ⟨rfl,hi,hb,hk⟩;refine ⟨_,rfl,?_⟩;have n0_:=Am (KeepBut.trans (by repeat (first|(with_reducible first|exact HK.out|apply KeepBut.set_|apply kN|apply kD|apply kA)|exact HK.out)) hk (.inl rfl));have n1_:=Am (hb);have n2_:=Am (hi);clear HK HB HI0;have HK:=n0_;have HB:=n1_;have HI0:=n2_;clear n0_ n1_ n2_;(try clear hb hk hi);have p114:0 ≤ (t112:Int):=oD (by assumption);have q114:t112 < (l1.length:Int):=oD (by assumption);obtain ⟨ad114,e114,hx114_0⟩:=Kd.at_string HR1.out t112 p114 q114;cases e114;replace hx114_0:=keep_cell HK.out hx114_0 (by first|(rw [add_block];exact hf1 _ rfl (by omega))|exact hf1 _ rfl (by omega)|exact hf1 ad114 rfl (by omega));replace p114:=eq_true p114;replace q114:=eq_true q114))
   go_ret
   exact ⟨by first|rfl|(simp <;> rfl)|(simp [*] <;> rfl),by repeat (first|(with_reducible first|exact HI0.out|apply IsS60.alloc|apply IsS60.drewN|apply IsS60.drew|apply IsS60.set_1)|exact HI0.out),by repeat (first|(with_reducible first|exact HB.out|apply bA|apply bN|apply bD|refine bS ?_ (IsS60.ge HI0.out))|exact HB.out),by repeat (first|(with_reducible first|exact HK.out|apply KeepBut.set_|apply kN|apply kD|apply kA)|exact HK.out)⟩
  ·rw [if_neg c5] at H
   exact absurd H (by simp)
 ·rw [if_neg c4] at H
  exact absurd H (by simp)

/-! ### spec_l71Houses: function 75 -/
def spec_l71Houses.f :Option (List ByteArray):=some (([(⟨#[97,98]⟩:ByteArray),(⟨#[99,100]⟩:ByteArray),(⟨#[101]⟩:ByteArray),(⟨#[102,111,120]⟩:ByteArray)]:List ByteArray))
theorem spec_l71Houses.calls  (r:List ByteArray) (w:World) (h:spec_l71Houses.f  = some r) :
  Calls Tryd.prog 75 #[] w fun e w'=>∃ v0_:Value,e = .returned (v0_) ∧ Kd.R Kd.string 9 w' w.heap.size (fun _=>True) v0_ r ∧ Below w.heap.size w w':=by
 have HB:=Am (Below.refl w.heap.size w)
 have H:(some (([(⟨#[97,98]⟩:ByteArray),(⟨#[99,100]⟩:ByteArray),(⟨#[101]⟩:ByteArray),(⟨#[102,111,120]⟩:ByteArray)]:List ByteArray))) = some r:=h
 clear h
 obtain ⟨y115,hy115⟩:∃ y_:List ByteArray,y_ = (([(⟨#[97,98]⟩:ByteArray),(⟨#[99,100]⟩:ByteArray),(⟨#[101]⟩:ByteArray),(⟨#[102,111,120]⟩:ByteArray)]:List ByteArray)):=⟨_,rfl⟩
 replace H:(some y115) = some r:=by first|(rw [hy115];with_reducible exact H)|(have H2_:=(Option.bind_some _ _).symm.trans H;rw [hy115];with_reducible exact H2_)|(have H2_:=(Option.bind_some _ _).symm.trans H;with_reducible exact H2_)|with_reducible exact H|(rw [hy115];exact H)|exact H
 have Ny115:=Am hy115
 clear hy115
 obtain rfl:=Option.some.inj H
 go_enter Tryd.func75,Tryd.ntmps75
 go_wp2_with (first|((with_reducible refine gate_dst (N:=1) rfl ?_);refine Kd.R_lit Kd.string _ 9 ?hg (N:=1) ?hd (xs:=([(⟨#[97,98]⟩:ByteArray),(⟨#[99,100]⟩:ByteArray),(⟨#[101]⟩:ByteArray),(⟨#[102,111,120]⟩:ByteArray)]:List ByteArray)) (inner:=[.string (⟨#[97,98]⟩:ByteArray), .string (⟨#[99,100]⟩:ByteArray), .string (⟨#[101]⟩:ByteArray), .string (⟨#[102,111,120]⟩:ByteArray)]) (ok:=fun _=>True) (okp:=fun _=>True) ?hr ?hp (fun _ hk=>hk) trivial (Below.refl _ _) (Nat.le_refl _) (by simp) ?_;(case hd=>rfl);(case hg=>rfl);(case hr=>(go_simp <;> rfl));(case hp=>exact (Reps.one (show Kd.M Kd.string _ _ _ (⟨#[97,98]⟩:ByteArray) [.string (⟨#[97,98]⟩:ByteArray)] from rfl) (Reps.one (show Kd.M Kd.string _ _ _ (⟨#[99,100]⟩:ByteArray) [.string (⟨#[99,100]⟩:ByteArray)] from rfl) (Reps.one (show Kd.M Kd.string _ _ _ (⟨#[101]⟩:ByteArray) [.string (⟨#[101]⟩:ByteArray)] from rfl) (Reps.one (show Kd.M Kd.string _ _ _ (⟨#[102,111,120]⟩:ByteArray) [.string (⟨#[102,111,120]⟩:ByteArray)] from rfl) (Reps.none _ _))))));intro v116 w1 ho2 hb hg_ hnew_;clear hg_ hnew_;(first|rw [← Ny115.out] at ho2|(simp only [Int.reduceToNat] at ho2;rw [← Ny115.out] at ho2));have n0_:=Am (Kd.R_lower ho2 (bU (by repeat (first|(with_reducible first|exact HB.out|apply bA|apply bN|apply bD)|exact HB.out))));have n1_:=Am (bT (by repeat (first|(with_reducible first|exact HB.out|apply bA|apply bN|apply bD)|exact HB.out)) hb);clear HB;have HO117:=n0_;have HB:=n1_;clear n0_ n1_ hb ho2))
 go_ret
 exact ⟨_,by first|rfl|(simp <;> rfl)|(simp [*] <;> rfl),by (with_reducible repeat (first|apply rA|apply rN|apply rD));exact HO117.out,by repeat (first|(with_reducible first|exact HB.out|apply bA|apply bN|apply bD)|exact HB.out)⟩

/-! ### spec_AddrText: function 76 -/
def spec_AddrText.f (k:Nat) (a0_0:ByteArray) (l0_1:List ByteArray) (a0_2:Bool) (a0_3:ByteArray):Option (ByteArray):=(spec_AddrOk.f k a0_0 l0_1 a0_2 a0_3).bind fun t145=>(if t145 = true then ((spec_l1Text.f k a0_0 l0_1 a0_2 a0_3).bind fun t146=>(some t146)) else (some (⟨#[]⟩:ByteArray)))
theorem spec_AddrText.mono:∀ a0 a1 a2 a3 k,LeO (spec_AddrText.f k a0 a1 a2 a3) (spec_AddrText.f (k + 1) a0 a1 a2 a3):=by
 intro a0 a1 a2 a3 k
 unfold spec_AddrText.f
 repeat' first
   | (with_reducible apply spec_AddrOk.mono)
   | (with_reducible apply spec_l1Text.mono)
   | (with_reducible exact LeO.refl _)
   | (with_reducible exact LeO.none _)
   | (with_reducible refine LeO.ite ?_ ?_)
   | (with_reducible refine LeO.bind ?_ (fun _=>?_))
   | exact spec_AddrOk.mono _ _ _ _ _
   | exact spec_l1Text.mono _ _ _ _ _
   | exact LeO.none _
   | refine LeO.ite ?_ ?_
   | refine LeO.bind ?_ (fun _=>?_)
theorem spec_AddrText.calls (k:Nat) (a0_0:ByteArray) (A0_1:Option Addr) (c0_1:Nat) (l0_1:List ByteArray) (a0_2:Bool) (a0_3:ByteArray) (r:ByteArray) (w:World) (hr0_1:Kd.C Kd.string w A0_1 l0_1.length l0_1) (hc0_1:l0_1.length ≤ c0_1) (h:spec_AddrText.f k a0_0 l0_1 a0_2 a0_3 = some r) :
  Calls Tryd.prog 76 #[.agg #[.string a0_0, .slice A0_1 l0_1.length c0_1, .bool a0_2, .string a0_3]] w fun e w'=>e = .returned (.string r) ∧ Below w.heap.size w w':=by
 have hu25:=Tryd.underlying25
 have HR0_1:=Am hr0_1
 have HC0_1:=Am hc0_1
 clear hr0_1 hc0_1
 have HB:=Am (Below.refl w.heap.size w)
 have H:((spec_AddrOk.f k a0_0 l0_1 a0_2 a0_3).bind fun t145=>(if t145 = true then ((spec_l1Text.f k a0_0 l0_1 a0_2 a0_3).bind fun t146=>(some t146)) else (some (⟨#[]⟩:ByteArray)))) = some r:=h
 clear h
 replace H:=bI H
 obtain ⟨t145,A20,H⟩:=H
 replace H:(if t145 = true then ((spec_l1Text.f k a0_0 l0_1 a0_2 a0_3).bind fun t146=>(some t146)) else (some (⟨#[]⟩:ByteArray))) = some r:=H
 have A2:=Am A20
 clear A20
 by_cases c3:t145 = true
 ·subst c3
  have H1:((spec_l1Text.f k a0_0 l0_1 a0_2 a0_3).bind fun t146=>(some t146)) = some r:=by rw [if_pos rfl] at H;exact H
  clear H
  have H:=H1
  clear H1
  replace H:=bI H
  obtain ⟨t146,A40,H⟩:=H
  replace H:(some t146) = some r:=H
  have A4:=Am A40
  clear A40
  obtain rfl:=Option.some.inj H
  go_enter Tryd.func76,Tryd.ntmps76
  go_wp2_with (first|((with_reducible refine gate_dst (N:=1) rfl ?_);refine box_event ?hg (N:=1) ?hd (cs:=#[.string a0_0, .slice A0_1 l0_1.length c0_1, .bool a0_2, .string a0_3]) (t:=25) ?hr ?_;(case hd=>rfl);(case hg=>rfl);(case hr=>(go_simp <;> rfl));intro gb144 hg w5 hbox hb;have n0_:=Am (bT (by repeat (first|(with_reducible first|exact HB.out|apply bA|apply bN|apply bD)|exact HB.out)) hb);have n1_:=Am (hbox);have n2_:=Am ((by rw [hg];exact (bU (by repeat (first|(with_reducible first|exact HB.out|apply bA|apply bN|apply bD)|exact HB.out))):w.heap.size ≤ gb144));have n3_:=n2_;clear HB;have HB:=n0_;have BK144:=n1_;have GW144:=n2_;have GE144:=n3_;clear n0_ n1_ n2_ n3_ hb hbox hg;have hcz6_0:w5.cell? ⟨gb144,0,none⟩ = some (.string a0_0):=bM BK144.out 0 rfl;have hcz6_1:w5.cell? ⟨gb144,1,none⟩ = some (.slice A0_1 l0_1.length c0_1):=bM BK144.out 1 rfl;have hcz6_2:w5.cell? ⟨gb144,2,none⟩ = some (.bool a0_2):=bM BK144.out 2 rfl;have hcz6_3:w5.cell? ⟨gb144,3,none⟩ = some (.string a0_3):=bM BK144.out 3 rfl;have hfz6_0:=bZ BK144.out 0;have hfz6_1:=bZ BK144.out 1;have hfz6_2:=bZ BK144.out 2;have hfz6_3:=bZ BK144.out 3)|((with_reducible refine gate_callee (f:=15) rfl ?_);refine goesL_ (some 4) rfl rfl Tryd.func15 (by kernel_rfl) rfl #[.agg #[.string a0_0, .slice A0_1 l0_1.length c0_1, .bool a0_2, .string a0_3]] rfl (aE1 rfl) ?_;(with_reducible refine (spec_AddrOk.calls k a0_0 _ _ l0_1 a0_2 a0_3 true _ ?side1 ?side2 A2.out).mono ?_);(case side1=>repeat (first|exact (Kd.C_below HR0_1.out HB.out)|(with_reducible refine bC ?_)));(case side2=>exact HC0_1.out);rintro e w7 ⟨rfl,hb⟩;refine ⟨_,rfl,?_⟩;have n0_:=Am (blk_below (bB BK144.out) hb);have n1_:=Am (bT (by repeat (first|(with_reducible first|exact HB.out|apply bA|apply bN|apply bD|refine bS ?_ GE144.out)|exact HB.out)) hb);clear BK144 HB;have BK144:=n0_;have HB:=n1_;clear n0_ n1_;(try clear hb);have hcz8_0:w7.cell? ⟨gb144,0,none⟩ = some (.string a0_0):=bM BK144.out 0 rfl;have hcz8_1:w7.cell? ⟨gb144,1,none⟩ = some (.slice A0_1 l0_1.length c0_1):=bM BK144.out 1 rfl;have hcz8_2:w7.cell? ⟨gb144,2,none⟩ = some (.bool a0_2):=bM BK144.out 2 rfl;have hcz8_3:w7.cell? ⟨gb144,3,none⟩ = some (.string a0_3):=bM BK144.out 3 rfl;have hfz8_0:=bZ BK144.out 0;have hfz8_1:=bZ BK144.out 1;have hfz8_2:=bZ BK144.out 2;have hfz8_3:=bZ BK144.out 3)|((with_reducible refine gate_callee (f:=44) rfl ?_);refine goesL_ (some 7) rfl rfl Tryd.func44 (by kernel_rfl) rfl #[.agg #[.string a0_0, .slice A0_1 l0_1.length c0_1, .bool a0_2, .string a0_3]] rfl (aE1 rfl) ?_;(with_reducible refine (spec_l1Text.calls k a0_0 _ _ l0_1 a0_2 a0_3 t146 _ ?side1 ?side2 A4.out).mono ?_);(case side1=>repeat (first|exact (Kd.C_below HR0_1.out HB.out)|(with_reducible refine bC ?_)));(case side2=>exact HC0_1.out);rintro e w9 ⟨rfl,hb⟩;refine ⟨_,rfl,?_⟩;have n0_:=Am (blk_below (bB BK144.out) hb);have n1_:=Am (bT (by repeat (first|(with_reducible first|exact HB.out|apply bA|apply bN|apply bD|refine bS ?_ GE144.out)|exact HB.out)) hb);clear BK144 HB;have BK144:=n0_;have HB:=n1_;clear n0_ n1_;(try clear hb)))
  go_ret
  exact ⟨by first|rfl|(simp <;> rfl)|(simp [*] <;> rfl),by repeat (first|(with_reducible first|exact HB.out|apply bA|apply bN|apply bD|refine bS ?_ GE144.out)|exact HB.out)⟩
 ·replace c3:=Bool.eq_false_iff.mpr c3
  subst c3
  have H1:(some (⟨#[]⟩:ByteArray)) = some r:=by rw [if_neg (show ¬ (false = true) by decide)] at H;exact H
  clear H
  have H:=H1
  clear H1
  obtain rfl:=Option.some.inj H
  go_enter Tryd.func76,Tryd.ntmps76
  go_wp2_with (first|((with_reducible refine gate_dst (N:=1) rfl ?_);refine box_event ?hg (N:=1) ?hd (cs:=#[.string a0_0, .slice A0_1 l0_1.length c0_1, .bool a0_2, .string a0_3]) (t:=25) ?hr ?_;(case hd=>rfl);(case hg=>rfl);(case hr=>(go_simp <;> rfl));intro gb144 hg w10 hbox hb;have n0_:=Am (bT (by repeat (first|(with_reducible first|exact HB.out|apply bA|apply bN|apply bD)|exact HB.out)) hb);have n1_:=Am (hbox);have n2_:=Am ((by rw [hg];exact (bU (by repeat (first|(with_reducible first|exact HB.out|apply bA|apply bN|apply bD)|exact HB.out))):w.heap.size ≤ gb144));have n3_:=n2_;clear HB;have HB:=n0_;have BK144:=n1_;have GW144:=n2_;have GE144:=n3_;clear n0_ n1_ n2_ n3_ hb hbox hg;have hcz11_0:w10.cell? ⟨gb144,0,none⟩ = some (.string a0_0):=bM BK144.out 0 rfl;have hcz11_1:w10.cell? ⟨gb144,1,none⟩ = some (.slice A0_1 l0_1.length c0_1):=bM BK144.out 1 rfl;have hcz11_2:w10.cell? ⟨gb144,2,none⟩ = some (.bool a0_2):=bM BK144.out 2 rfl;have hcz11_3:w10.cell? ⟨gb144,3,none⟩ = some (.string a0_3):=bM BK144.out 3 rfl;have hfz11_0:=bZ BK144.out 0;have hfz11_1:=bZ BK144.out 1;have hfz11_2:=bZ BK144.out 2;have hfz11_3:=bZ BK144.out 3)|((with_reducible refine gate_callee (f:=15) rfl ?_);refine goesL_ (some 4) rfl rfl Tryd.func15 (by kernel_rfl) rfl #[.agg #[.string a0_0, .slice A0_1 l0_1.length c0_1, .bool a0_2, .string a0_3]] rfl (aE1 rfl) ?_;(with_reducible refine (spec_AddrOk.calls k a0_0 _ _ l0_1 a0_2 a0_3 false _ ?side1 ?side2 A2.out).mono ?_);(case side1=>repeat (first|exact (Kd.C_below HR0_1.out HB.out)|(with_reducible refine bC ?_)));(case side2=>exact HC0_1.out);rintro e w12 ⟨rfl,hb⟩;refine ⟨_,rfl,?_⟩;have n0_:=Am (blk_below (bB BK144.out) hb);have n1_:=Am (bT (by repeat (first|(with_reducible first|exact HB.out|apply bA|apply bN|apply bD|refine bS ?_ GE144.out)|exact HB.out)) hb);clear BK144 HB;have BK144:=n0_;have HB:=n1_;clear n0_ n1_;(try clear hb)))
  go_ret
  exact ⟨by first|rfl|(simp <;> rfl)|(simp [*] <;> rfl),by repeat (first|(with_reducible first|exact HB.out|apply bA|apply bN|apply bD|refine bS ?_ GE144.out)|exact HB.out)⟩

/-! ### spec_l71Addr: function 57 -/
def spec_l71Addr.l0:Nat → Int → List Int → Int → ByteArray → List ByteArray → Bool → ByteArray → Option (ByteArray × Int)
 | 0,_,_,_,_,_,_,_=>none
 | k + 1,x4,x1000,x1001,x154000,x154001,x154002,x154003=>if x4 > 0 then ((spec_l6Rd_of.f k x1000 x1001 (([(⟨#[97]⟩:ByteArray),(⟨#[98]⟩:ByteArray),(⟨#[99]⟩:ByteArray),(⟨#[110,111,116,105,99,101]⟩:ByteArray)]:List ByteArray))).bind fun bt159=>(if x154001.length < 8796093022208 then (spec_l71Addr.l0 k (wrap64 (x4 - 1)) x1000 bt159.2 x154000 (x154001 ++ [bt159.1]) x154002 x154003) else (none))) else ((spec_l6Rd_pick.f k x1000 x1001 8).bind fun bt164=>(if bt164.1 = 0 then ((spec_l6Rd_of.f k x1000 bt164.2 (([(⟨#[]⟩:ByteArray),(⟨#[97]⟩:ByteArray),(⟨#[98,37,51,68]⟩:ByteArray)]:List ByteArray))).bind fun bt169=>((spec_AddrText.f k x154000 x154001 true bt169.1).bind fun t171=>(some (t171,bt169.2)))) else ((spec_AddrText.f k x154000 x154001 x154002 x154003).bind fun t172=>(some (t172,bt164.2)))))
def spec_l71Addr.f (k:Nat) (s0_0:List Int) (s0_1:Int):Option (ByteArray × Int):=(spec_l71Houses.f).bind fun t147=>((spec_l6Rd_pick.f k s0_0 s0_1 4).bind fun bt150=>(if 0 ≤ bt150.1 then (if bt150.1 < (t147.length:Int) then ((spec_l6Rd_pick.f k s0_0 bt150.2 3).bind fun bt154=>(spec_l71Addr.l0 k bt154.1 s0_0 bt154.2 (rdOf ByteArray.empty t147 bt150.1) ([]:List ByteArray) false (⟨#[]⟩:ByteArray))) else (none)) else (none)))
theorem spec_l71Addr.mono_l:∀ k,(∀ y0 y1 y2 y3 y4 y5 y6,LeO (spec_l71Addr.l0 k y0 y1 y2 y3 y4 y5 y6) (spec_l71Addr.l0 (k + 1) y0 y1 y2 y3 y4 y5 y6))
 | 0=>fun _ _ _ _ _ _ _ r h=>by simp [spec_l71Addr.l0] at h
 | k + 1=>by
  have ih0:=spec_l71Addr.mono_l k
  ·intro y0 y1 y2 y3 y4 y5 y6
   unfold spec_l71Addr.l0
   repeat' first
   | (with_reducible apply ih0)
   | (with_reducible apply spec_AddrText.mono)
   | (with_reducible apply spec_l6Rd_of.mono)
   | (with_reducible apply spec_l6Rd_pick.mono)
   | (with_reducible exact LeO.refl _)
   | (with_reducible exact LeO.none _)
   | (with_reducible refine LeO.ite ?_ ?_)
   | (with_reducible refine LeO.bind ?_ (fun _=>?_))
   | exact ih0 _ _ _ _ _ _ _
   | exact spec_AddrText.mono _ _ _ _ _
   | exact spec_l6Rd_of.mono _ _ _ _
   | exact spec_l6Rd_pick.mono _ _ _ _
   | exact LeO.none _
   | refine LeO.ite ?_ ?_
   | refine LeO.bind ?_ (fun _=>?_)
theorem spec_l71Addr.mono:∀ a0 a1 k,LeO (spec_l71Addr.f k a0 a1) (spec_l71Addr.f (k + 1) a0 a1):=by
 intro a0 a1 k
 have ih0:=spec_l71Addr.mono_l k
 unfold spec_l71Addr.f
 repeat' first
   | (with_reducible apply ih0)
   | (with_reducible apply spec_AddrText.mono)
   | (with_reducible apply spec_l6Rd_of.mono)
   | (with_reducible apply spec_l6Rd_pick.mono)
   | (with_reducible exact LeO.refl _)
   | (with_reducible exact LeO.none _)
   | (with_reducible refine LeO.ite ?_ ?_)
   | (with_reducible refine LeO.bind ?_ (fun _=>?_))
   | exact ih0 _ _ _ _ _ _ _
   | exact spec_AddrText.mono _ _ _ _ _
   | exact spec_l6Rd_of.mono _ _ _ _
   | exact spec_l6Rd_pick.mono _ _ _ _
   | exact LeO.none _
   | refine LeO.ite ?_ ?_
   | refine LeO.bind ?_ (fun _=>?_)
def spec_l71Addr.T5:Bool × List (List Nat × List Nat):=(true,[([],[]),([0],[0]),([],[]),([],[]),([2,3],[2,3]),([4],[4]),([1,5,4],[1,5]),([0,1,2,3,4,5,6],[]),([7,6,6,0,1,2,3,4,5,6],[6,7])])
def spec_l71Addr.B5:List Nat:=[0,1,0,0,12,28,63,127,255]
theorem spec_l71Addr.tab5:rtab .any (opsOf Tryd.f57 5) = spec_l71Addr.T5:=by kernel_rfl
theorem spec_l71Addr.bits5:waitsOk spec_l71Addr.T5.2 spec_l71Addr.B5 = true:=by kernel_rfl
theorem spec_l71Addr.calls (k:Nat) (g:Nat) (s0_0:List Int) (s0_1:Int) (r1:ByteArray) (r2:Int) (w0 w:World) (hI:IsS60 w0 w g s0_0 s0_1) (hB:Below w0.heap.size w0 w) (h:spec_l71Addr.f k s0_0 s0_1 = some (r1,r2)) :
  Calls Tryd.prog 57 #[.pointer (some ⟨g,0,none⟩)] w fun e w'=>e = .returned (.string r1) ∧ IsS60 w0 w' g s0_0 r2 ∧ Below w0.heap.size w0 w' ∧ KeepBut w w' g none:=by
 have hu25:=Tryd.underlying25
 have HI0:=Am hI
 have HK:=Am (KeepBut.refl w g none)
 have HL:=Am hB.size
 clear hI
 have HW0:=Am hB.size
 have HB:=Am hB
 clear hB
 have H:((spec_l71Houses.f).bind fun t147=>((spec_l6Rd_pick.f k s0_0 s0_1 4).bind fun bt150=>(if 0 ≤ bt150.1 then (if bt150.1 < (t147.length:Int) then ((spec_l6Rd_pick.f k s0_0 bt150.2 3).bind fun bt154=>(spec_l71Addr.l0 k bt154.1 s0_0 bt154.2 (rdOf ByteArray.empty t147 bt150.1) ([]:List ByteArray) false (⟨#[]⟩:ByteArray))) else (none)) else (none)))) = some (r1,r2):=h
 clear h
 replace H:=bI H
 obtain ⟨t147,A20,H⟩:=H
 replace H:((spec_l6Rd_pick.f k s0_0 s0_1 4).bind fun bt150=>(if 0 ≤ bt150.1 then (if bt150.1 < (t147.length:Int) then ((spec_l6Rd_pick.f k s0_0 bt150.2 3).bind fun bt154=>(spec_l71Addr.l0 k bt154.1 s0_0 bt154.2 (rdOf ByteArray.empty t147 bt150.1) ([]:List ByteArray) false (⟨#[]⟩:ByteArray))) else (none)) else (none))) = some (r1,r2):=H
 have A2:=Am A20
 clear A20
 replace H:=bI H
 obtain ⟨⟨t150,t151⟩,A30,H⟩:=H
 replace H:(if 0 ≤ t150 then (if t150 < (t147.length:Int) then ((spec_l6Rd_pick.f k s0_0 t151 3).bind fun bt154=>(spec_l71Addr.l0 k bt154.1 s0_0 bt154.2 (rdOf ByteArray.empty t147 t150) ([]:List ByteArray) false (⟨#[]⟩:ByteArray))) else (none)) else (none)) = some (r1,r2):=H
 have A3:=Am A30
 clear A30
 by_cases c4:0 ≤ t150
 ·rw [if_pos c4] at H
  have c4b0:decide (0 ≤ t150) = true:=decide_eq_true c4
  clear c4
  by_cases c5:t150 < (t147.length:Int)
  ·rw [if_pos c5] at H
   have c5b0:decide (t150 < (t147.length:Int)) = true:=decide_eq_true c5
   clear c5
   replace H:=bI H
   obtain ⟨⟨t154,t155⟩,A60,H⟩:=H
   replace H:(spec_l71Addr.l0 k t154 s0_0 t155 (rdOf ByteArray.empty t147 t150) ([]:List ByteArray) false (⟨#[]⟩:ByteArray)) = some (r1,r2):=H
   have A6:=Am A60
   clear A60
   have H':=Am H
   clear H
   go_enter Tryd.func57,Tryd.ntmps57
   go_wp2_with (first|((with_reducible refine gate_callee (f:=75) rfl ?_);refine goesL_ (some 5) rfl rfl Tryd.func75 (by kernel_rfl) rfl #[] rfl (by (try simp only [List.map_toArray,List.map_cons,List.map_nil]);first|done|rfl|(simp only [List.length_drop,List.length_take];rfl)) ?_;(with_reducible refine (spec_l71Houses.calls  t147 _ A2.out).mono ?_);rintro e w7 ⟨v148,rfl,ho0,hb⟩;refine ⟨_,rfl,?_⟩;have n0_:=Am (Kd.R_lower ho0 (keep_size (w:=w) (g:=g) (row:=none) (by repeat (first|(with_reducible first|exact HK.out|apply KeepBut.set_|apply kN|apply kD|apply kA)|exact HK.out))));have n1_:=Am (IsS60.below (by repeat (first|(with_reducible first|exact HI0.out|apply IsS60.alloc|apply IsS60.drewN|apply IsS60.drew|apply IsS60.set_1)|exact HI0.out)) hb);have n2_:=Am (KeepBut.trans (by repeat (first|(with_reducible first|exact HK.out|apply KeepBut.set_|apply kN|apply kD|apply kA)|exact HK.out)) (KeepBut.of_below hb g none) (.inl rfl));have n3_:=Am (bT (by repeat (first|(with_reducible first|exact HB.out|apply bA|apply bN|apply bD|refine bS ?_ (IsS60.ge HI0.out))|exact HB.out)) hb);clear HI0 HK HB;have HO149:=n0_;have HI0:=n1_;have HK:=n2_;have HB:=n3_;clear n0_ n1_ n2_ n3_;(try clear hb);(try clear ho0))|((with_reducible refine gate_callee (f:=52) rfl ?_);refine goesL_ (some 7) rfl rfl Tryd.func52 (by kernel_rfl) rfl #[.pointer (some ⟨g,0,none⟩), .int .i64 4] rfl (aE2 rfl rfl) ?_;(with_reducible refine (spec_l6Rd_pick.calls k g s0_0 s0_1 4 t150 t151 w0 _ ?side1 ?side2 A3.out).mono ?_);(case side1=>repeat (first|(with_reducible first|exact HI0.out|apply IsS60.alloc|apply IsS60.drewN|apply IsS60.drew|apply IsS60.set_1)|exact HI0.out));(case side2=>repeat (first|(with_reducible first|exact HB.out|apply bA|apply bN|apply bD|refine bS ?_ (IsS60.ge HI0.out))|exact HB.out));rintro e w8 ⟨rfl,hi,hb,hk⟩;refine ⟨_,rfl,?_⟩;have n0_:=Am (Kd.R_mono (Kd.R_keep (IsS60.apart (show IsS60 w0 _ g s0_0 s0_1 from by repeat (first|(with_reducible first|exact HI0.out|apply IsS60.alloc|apply IsS60.drewN|apply IsS60.drew|apply IsS60.set_1)|exact HI0.out)) (bR HO149.out) (by decide)) hk (fun _ h=>h.2)) (fun _ h=>h.1));have n1_:=Am (KeepBut.trans (by repeat (first|(with_reducible first|exact HK.out|apply KeepBut.set_|apply kN|apply kD|apply kA)|exact HK.out)) hk (.inl rfl));have n2_:=Am (hb);have n3_:=Am (hi);clear HO149 HK HB HI0;have HO149:=n0_;have HK:=n1_;have HB:=n2_;have HI0:=n3_;clear n0_ n1_ n2_ n3_;(try clear hb hk hi);obtain ⟨Ao9,co9,eo9⟩:=Kd.R_slice HO149.out;subst eo9;have p152:0 ≤ (t150:Int):=oD (by assumption);have q152:t150 < (t147.length:Int):=oD (by assumption);obtain ⟨ad152,e152,hx152_0⟩:=Kd.at_string (Kd.R_reads' HO149.out).2.2 t150 p152 q152;cases e152;replace p152:=eq_true p152;replace q152:=eq_true q152)|((with_reducible refine gate_dst (N:=3) rfl ?_);refine box_event ?hg (N:=3) ?hd (cs:=#[.string (⟨#[]⟩:ByteArray), .slice none 0 0, .bool false, .string (⟨#[]⟩:ByteArray)]) (t:=25) ?hr ?_;(case hd=>rfl);(case hg=>rfl);(case hr=>(go_simp <;> rfl));intro gb153 hg w10 hbox hb;have n0_:=Am (Kd.R_below (bR HO149.out) hb);have n1_:=Am (IsS60.below (by repeat (first|(with_reducible first|exact HI0.out|apply IsS60.alloc|apply IsS60.drewN|apply IsS60.drew|apply IsS60.set_1)|exact HI0.out)) hb);have n2_:=Am (KeepBut.trans (by repeat (first|(with_reducible first|exact HK.out|apply KeepBut.set_|apply kN|apply kD|apply kA)|exact HK.out)) (KeepBut.of_below hb g none) (.inl rfl));have n3_:=Am (bT (by repeat (first|(with_reducible first|exact HB.out|apply bA|apply bN|apply bD|refine bS ?_ (IsS60.ge HI0.out))|exact HB.out)) hb);have n4_:=Am (hbox);have n5_:=Am ((by rw [hg];exact (keep_size (w:=w) (g:=g) (row:=none) (by repeat (first|(with_reducible first|exact HK.out|apply KeepBut.set_|apply kN|apply kD|apply kA)|exact HK.out))):w.heap.size ≤ gb153));have n6_:=Am ((Nat.le_trans HW0.out (by rw [hg];exact (keep_size (w:=w) (g:=g) (row:=none) (by repeat (first|(with_reducible first|exact HK.out|apply KeepBut.set_|apply kN|apply kD|apply kA)|exact HK.out))):w.heap.size ≤ gb153):w0.heap.size ≤ gb153));have n7_:=Am ((by rw [hg];exact Nat.ne_of_lt (IsS60.lt (show IsS60 w0 _ g s0_0 t151 from by repeat (first|(with_reducible first|exact HI0.out|apply IsS60.alloc|apply IsS60.drewN|apply IsS60.drew|apply IsS60.set_1)|exact HI0.out))):g ≠ gb153));have n8_:=Am ((by rw [hg];exact Nat.ne_of_gt (IsS60.lt (show IsS60 w0 _ g s0_0 t151 from by repeat (first|(with_reducible first|exact HI0.out|apply IsS60.alloc|apply IsS60.drewN|apply IsS60.drew|apply IsS60.set_1)|exact HI0.out))):gb153 ≠ g));clear HO149 HI0 HK HB;have HO149:=n0_;have HI0:=n1_;have HK:=n2_;have HB:=n3_;have BK153:=n4_;have GW153:=n5_;have GE153:=n6_;have NB0_153:=n7_;have NB153_0:=n8_;clear n0_ n1_ n2_ n3_ n4_ n5_ n6_ n7_ n8_ hb hbox hg;have hnb11:=NB153_0.out;have hnc11:=NB0_153.out;have hcz12_0:w10.cell? ⟨gb153,0,none⟩ = some (.string (⟨#[]⟩:ByteArray)):=bM BK153.out 0 rfl;have hcz12_1:w10.cell? ⟨gb153,1,none⟩ = some (.slice none 0 0):=bM BK153.out 1 rfl;have hcz12_2:w10.cell? ⟨gb153,2,none⟩ = some (.bool false):=bM BK153.out 2 rfl;have hcz12_3:w10.cell? ⟨gb153,3,none⟩ = some (.string (⟨#[]⟩:ByteArray)):=bM BK153.out 3 rfl;have hfz12_0:=bZ BK153.out 0;have hfz12_1:=bZ BK153.out 1;have hfz12_2:=bZ BK153.out 2;have hfz12_3:=bZ BK153.out 3)|((with_reducible refine gate_callee (f:=52) rfl ?_);refine goesL_ (some 12) rfl rfl Tryd.func52 (by kernel_rfl) rfl #[.pointer (some ⟨g,0,none⟩), .int .i64 3] rfl (aE2 rfl rfl) ?_;(with_reducible refine (spec_l6Rd_pick.calls k g s0_0 t151 3 t154 t155 w0 _ ?side1 ?side2 A6.out).mono ?_);(case side1=>repeat (first|(with_reducible first|exact HI0.out|apply IsS60.alloc|apply IsS60.drewN|apply IsS60.drew|apply IsS60.set_1|refine IsS60.far ?_ NB0_153.out _)|exact HI0.out));(case side2=>repeat (first|(with_reducible first|exact HB.out|apply bA|apply bN|apply bD|refine bS ?_ (IsS60.ge HI0.out)|refine bS ?_ GE153.out)|exact HB.out));rintro e w13 ⟨rfl,hi,hb,hk⟩;refine ⟨_,rfl,?_⟩;have n0_:=Am (Kd.R_mono (Kd.R_keep (IsS60.apart (show IsS60 w0 _ g s0_0 t151 from by repeat (first|(with_reducible first|exact HI0.out|apply IsS60.alloc|apply IsS60.drewN|apply IsS60.drew|apply IsS60.set_1|refine IsS60.far ?_ NB0_153.out _)|exact HI0.out)) (by (with_reducible repeat (first|apply rA|apply rN|apply rD));exact (bQ HO149.out BK153.out (by decide) _ _ _ _)) (by decide)) hk (fun _ h=>h.2)) (fun _ h=>h.1));have n1_:=Am (KeepBut.blk hk (g':=gb153) (o:=.cells #[.string (rdOf ByteArray.empty t147 t150), .slice none 0 0, .bool false, .string (⟨#[]⟩:ByteArray)] 25 (0,0)) (by refine bB ?_;apply bP;refine bB ?_;exact BK153.out) NB153_0.out (by simp));have n2_:=Am (KeepBut.trans (by repeat (first|(with_reducible first|exact HK.out|apply KeepBut.set_|apply kN|apply kD|apply kA|refine keep_far ?_ GW153.out _)|exact HK.out)) hk (.inl rfl));have n3_:=Am (hb);have n4_:=Am (hi);clear HO149 BK153 HK HB HI0;have HO149:=n0_;have BK153:=n1_;have HK:=n2_;have HB:=n3_;have HI0:=n4_;clear n0_ n1_ n2_ n3_ n4_;(try clear hb hk hi)))
   go_loopg [4] k (fun kq v4 w'=>∃ (x4_1:Int) (x1001_1:Int) (x154001_1:List ByteArray) (u154001:Value),v4 = .int .i64 x4_1 ∧ Aside0 (spec_l71Addr.l0 kq x4_1 s0_0 x1001_1 (rdOf ByteArray.empty t147 t150) x154001_1 false (⟨#[]⟩:ByteArray) = some (r1,r2)) ∧ Aside0 (kq ≤ k) ∧ Aside0 (Kd.R Kd.string 9 w' w.heap.size (fun _=>True) u154001 x154001_1) ∧ Aside0 (w'.heap[gb153]? = some (.cells #[.string (rdOf ByteArray.empty t147 t150),u154001, .bool false, .string (⟨#[]⟩:ByteArray)] 25 (0,0))) ∧ Aside0 (IsS60 w0 w' g s0_0 x1001_1) ∧ Aside0 (KeepBut w w' g none) ∧ Aside0 (Below w0.heap.size w0 w'))
   case atStart=>exact ⟨(t154),(t155),(([]:List ByteArray)),(.slice none 0 0),(by first|rfl|(simp;done)|(simp only [i64_w,i32_w] <;> rfl)|(simp [*];done)|(simp [emp_bne,emp_beq];done)),H',⟨Nat.le_refl _⟩,⟨by first|exact Kd.R_nil _ _ _ _ _|exact Kd.N_nil _ _ _ _ _|exact Kd.V_nil _ _ _ _ _|exact Kd.Q_nil _ _ _ _ _|exact Kd.S_nil _ _ _ _ _⟩,⟨by refine bB ?_;exact BK153.out⟩,⟨by repeat (first|(with_reducible first|exact HI0.out|apply IsS60.alloc|apply IsS60.drewN|apply IsS60.drew|apply IsS60.set_1|refine IsS60.far ?_ NB0_153.out _)|exact HI0.out)⟩,⟨by repeat (first|(with_reducible first|exact HK.out|apply KeepBut.set_|apply kN|apply kD|apply kA|refine keep_far ?_ GW153.out _)|exact HK.out)⟩,⟨by repeat (first|(with_reducible first|exact HB.out|apply bA|apply bN|apply bD|refine bS ?_ (IsS60.ge HI0.out)|refine bS ?_ GE153.out)|exact HB.out)⟩⟩
   case round =>
    clear H'
    try clear c1
    try clear p1
    try clear q1
    try clear hx1
    try clear p2
    try clear c4
    try clear c4b0
    try clear c5
    try clear c5b0
    try clear c7
    try clear c11
    try clear hcz12_0
    try clear hcz12_1
    try clear hcz12_2
    try clear hcz12_3
    try clear hfz12_0
    try clear hfz12_1
    try clear hfz12_2
    try clear hfz12_3
    try clear hx152_0
    try clear p152
    try clear q152
    obtain ⟨x4_1,x1001_1,x154001_1,u154001,rfl,HA,HK1,HO_154001,BK153,HI0,HK,HB⟩:=hrel
    cases gk with
    | zero=>exact absurd HA.out (by simp [spec_l71Addr.l0])
    | succ k1 =>
     have H:=HA.out
     clear HA
     simp only [spec_l71Addr.l0] at H
     by_cases c14:x4_1 > 0
     ·rw [if_pos c14] at H
      have c14b0:decide (0 < x4_1) = true:=decide_eq_true c14
      clear c14
      obtain ⟨y156,hy156⟩:∃ y_:List ByteArray,y_ = (([(⟨#[97]⟩:ByteArray),(⟨#[98]⟩:ByteArray),(⟨#[99]⟩:ByteArray),(⟨#[110,111,116,105,99,101]⟩:ByteArray)]:List ByteArray)):=⟨_,rfl⟩
      replace H:((spec_l6Rd_of.f k1 s0_0 x1001_1 y156).bind fun bt159=>(if x154001_1.length < 8796093022208 then (spec_l71Addr.l0 k1 (wrap64 (x4_1 - 1)) s0_0 bt159.2 (rdOf ByteArray.empty t147 t150) (x154001_1 ++ [bt159.1]) false (⟨#[]⟩:ByteArray)) else (none))) = some (r1,r2):=by first|(rw [hy156];with_reducible exact H)|(have H2_:=(Option.bind_some _ _).symm.trans H;rw [hy156];with_reducible exact H2_)|(have H2_:=(Option.bind_some _ _).symm.trans H;with_reducible exact H2_)|with_reducible exact H|(rw [hy156];exact H)|exact H
      have Ny156:=Am hy156
      clear hy156
      replace H:=bI H
      obtain ⟨⟨t159,t160⟩,A150,H⟩:=H
      replace H:(if x154001_1.length < 8796093022208 then (spec_l71Addr.l0 k1 (wrap64 (x4_1 - 1)) s0_0 t160 (rdOf ByteArray.empty t147 t150) (x154001_1 ++ [t159]) false (⟨#[]⟩:ByteArray)) else (none)) = some (r1,r2):=H
      have A15:=Am A150
      clear A150
      by_cases c16:x154001_1.length < 8796093022208
      ·rw [if_pos c16] at H
       have LMc16:=Am c16
       clear c16
       obtain ⟨y161,hy161⟩:∃ y_:List ByteArray,y_ = (x154001_1 ++ [t159]):=⟨_,rfl⟩
       replace H:(spec_l71Addr.l0 k1 (wrap64 (x4_1 - 1)) s0_0 t160 (rdOf ByteArray.empty t147 t150) y161 false (⟨#[]⟩:ByteArray)) = some (r1,r2):=by first|(rw [hy161];with_reducible exact H)|(have H2_:=(Option.bind_some _ _).symm.trans H;rw [hy161];with_reducible exact H2_)|(have H2_:=(Option.bind_some _ _).symm.trans H;with_reducible exact H2_)|with_reducible exact H|(rw [hy161];exact H)|exact H
       have Ny161:=Am hy161
       clear hy161
       have H':=Am H
       clear H
       try go_wp2
       have n0_:=Am (Kd.R_drew HO_154001.out)
       have n1_:=Am (blk_drew BK153.out)
       have n2_:=Am (IsS60.drew HI0.out)
       have n3_:=Am (keep_drew HK.out)
       have n4_:=Am (below_drew1 HB.out)
       clear HO_154001
       clear BK153
       clear HI0
       clear HK
       clear HB
       have HO_154001:=n0_
       have BK153:=n1_
       have HI0:=n2_
       have HK:=n3_
       have HB:=n4_
       clear n0_ n1_ n2_ n3_ n4_
       refine start_ (n:=9) (S:=fun w'=>w'.cell? ⟨gb153,0,none⟩ = some (.string (rdOf ByteArray.empty t147 t150)) ∧ w'.cell? ⟨gb153,1,none⟩ = some (u154001) ∧ w'.cell? ⟨gb153,2,none⟩ = some (.bool false) ∧ w'.cell? ⟨gb153,3,none⟩ = some (.string (⟨#[]⟩:ByteArray))) (ds:=[8]) #[false,false,false,false,false,false,false,false,false] (by kernel_rfl) rfl rfl ⟨bM BK153.out 0 rfl,bM BK153.out 1 rfl,bM BK153.out 2 rfl,bM BK153.out 3 rfl⟩ (fun hHeld=>?_);refine with_tabW spec_l71Addr.tab5 spec_l71Addr.bits5 (fun HT_ HW_=>?_)
       generalize wr.drew = w17 at HO_154001 BK153 HI0 HK HB hHeld ⊢
       refine pure_ (i:=0) (N:=some 17) (v:=?_) (a':=?_) #[true,false,false,false,false,false,false,false,false] rfl rfl (any_of HT_.out (by kernel_rfl)) (fun _ _ _ h=>h) (Or.inl ⟨by rfl,?_⟩) ?_ ?_
       rotate_left
       ·intro w'
        go_simp
        with_reducible rfl
       rotate_left
       ·simp only [Act.put,List.setIfInBounds_toArray,List.set_cons_zero,List.set_cons_succ,i64_w,i32_w]
        rfl
       refine pure_ (i:=2) (N:=some 19) (v:=?_) (a':=?_) #[true,false,true,false,false,false,false,false,false] rfl rfl (any_of HT_.out (by kernel_rfl)) (fun _ _ _ h=>h) (Or.inl ⟨by rfl,?_⟩) ?_ ?_
       rotate_left
       ·intro w'
        go_simp
        with_reducible rfl
       rotate_left
       ·simp only [Act.put,List.setIfInBounds_toArray,List.set_cons_zero,List.set_cons_succ,i64_w,i32_w]
        rfl
       refine take_ (i:=1) (N:=some 18) (v:=?_) (a':=?_) #[true,true,true,false,false,false,false,false,false] rfl rfl (take_ofW HT_.out HW_.out (by kernel_rfl)) (fun _ _ _ h=>h) (Or.inl ⟨by rfl,?_⟩) hHeld ?_ ?_
       rotate_left
       ·rintro w' ⟨s0,s1,s2,s3⟩
        go_simp
        with_reducible rfl
       rotate_left
       ·simp only [Act.put,List.setIfInBounds_toArray,List.set_cons_zero,List.set_cons_succ,i64_w,i32_w]
        rfl
       refine one_ (i:=3) (N:=some 20) #[true,true,true,true,false,false,false,false,false] rfl rfl (one_of HT_.out (by kernel_rfl)) (by decide) (fun K hK=>?_)
       refine Kd.R_lit_step Kd.string _ 9 ?hg (N:=20) ?hd (xs:=([(⟨#[97]⟩:ByteArray),(⟨#[98]⟩:ByteArray),(⟨#[99]⟩:ByteArray),(⟨#[110,111,116,105,99,101]⟩:ByteArray)]:List ByteArray)) (inner:=[.string (⟨#[97]⟩:ByteArray), .string (⟨#[98]⟩:ByteArray), .string (⟨#[99]⟩:ByteArray), .string (⟨#[110,111,116,105,99,101]⟩:ByteArray)]) (ok:=fun _=>True) (okp:=fun _=>True) ?hr ?hp (fun _ hk=>hk) trivial (Below.refl _ _) (Nat.le_refl _) (by simp) ?_;(case hd=>rfl);(case hg=>rfl);(case hr=>(go_simp <;> rfl));(case hp=>exact (Reps.one (show Kd.M Kd.string _ _ _ (⟨#[97]⟩:ByteArray) [.string (⟨#[97]⟩:ByteArray)] from rfl) (Reps.one (show Kd.M Kd.string _ _ _ (⟨#[98]⟩:ByteArray) [.string (⟨#[98]⟩:ByteArray)] from rfl) (Reps.one (show Kd.M Kd.string _ _ _ (⟨#[99]⟩:ByteArray) [.string (⟨#[99]⟩:ByteArray)] from rfl) (Reps.one (show Kd.M Kd.string _ _ _ (⟨#[110,111,116,105,99,101]⟩:ByteArray) [.string (⟨#[110,111,116,105,99,101]⟩:ByteArray)] from rfl) (Reps.none _ _))))))
       intro v157 w18 ho19 hb hg_ hnew_
       clear hg_ hnew_
       (first|rw [← Ny156.out] at ho19|(simp only [Int.reduceToNat] at ho19;rw [← Ny156.out] at ho19))
       have n0_:=Am (Kd.R_elder' (bR HO_154001.out) (Kd.R_base ho19) hb)
       have n1_:=Am (Kd.R_lower (Kd.R_new' ho19 (Kd.R_lt (bR HO_154001.out))) (keep_size (w:=w) (g:=g) (row:=none) (by repeat (first|(with_reducible first|exact HK.out|apply KeepBut.set_|apply kN|apply kD|apply kA|refine keep_far ?_ GW153.out _)|exact HK.out))))
       have n2_:=Am (blk_below (bB BK153.out) hb)
       have n3_:=Am (IsS60.below (by repeat (first|(with_reducible first|exact HI0.out|apply IsS60.alloc|apply IsS60.drewN|apply IsS60.drew|apply IsS60.set_1|refine IsS60.far ?_ NB0_153.out _)|exact HI0.out)) hb)
       have n4_:=Am (KeepBut.trans (by repeat (first|(with_reducible first|exact HK.out|apply KeepBut.set_|apply kN|apply kD|apply kA|refine keep_far ?_ GW153.out _)|exact HK.out)) (KeepBut.of_below hb g none) (.inl rfl))
       have n5_:=Am (bT (by repeat (first|(with_reducible first|exact HB.out|apply bA|apply bN|apply bD|refine bS ?_ (IsS60.ge HI0.out)|refine bS ?_ GE153.out)|exact HB.out)) hb)
       clear HO_154001
       clear BK153
       clear HI0
       clear HK
       clear HB
       have HO_154001:=n0_
       have HO158:=n1_
       have BK153:=n2_
       have HI0:=n3_
       have HK:=n4_
       have HB:=n5_
       clear n0_ n1_ n2_ n3_ n4_ n5_
       clear hb ho19
       obtain ⟨Ao20,co20,eo20⟩:=Kd.R_slice HO158.out
       (first|subst eo20|(injection eo20 with f1_ f2_ f3_;have f4_:=f1_.symm;have f5_:=f3_.symm;clear f1_ f2_ f3_;subst f4_;subst f5_))
       refine hK.out _ _ ⟨bM BK153.out 0 rfl,bM BK153.out 1 rfl,bM BK153.out 2 rfl,bM BK153.out 3 rfl⟩ (fun hHeld=>?_)
       clear hK K
       refine norm_ (a':=?_) ?_ ?_
       rotate_left
       ·show Act.put _ (some 20) _ = _
        simp only [Act.put,List.setIfInBounds_toArray,List.set_cons_zero,List.set_cons_succ,i64_w,i32_w]
        rfl
       refine one_ (i:=4) (N:=some 21) #[true,true,true,true,true,false,false,false,false] rfl rfl (one_of HT_.out (by kernel_rfl)) (by decide) (fun K hK=>?_)
       refine goes_ Tryd.func53 (by kernel_rfl) rfl #[.pointer (some ⟨g,0,none⟩), .slice Ao20 y156.length co20] (by rfl) rfl rfl (by (try simp only [List.map_toArray,List.map_cons,List.map_nil]);first|done|rfl|(simp only [List.length_drop,List.length_take];rfl)) ?_
       with_reducible refine (spec_l6Rd_of.calls k1 g s0_0 x1001_1 _ _ y156 t159 t160 w0 _ ?side1 ?side2 ?side3 ?side4 ?side5 A15.out).mono ?_
       (case side1=>repeat (first|(with_reducible first|exact HI0.out|apply IsS60.alloc|apply IsS60.drewN|apply IsS60.drew|apply IsS60.set_1|refine IsS60.far ?_ NB0_153.out _)|exact HI0.out))
       (case side2=>repeat (first|(with_reducible first|exact HB.out|apply bA|apply bN|apply bD|refine bS ?_ (IsS60.ge HI0.out)|refine bS ?_ GE153.out)|exact HB.out))
       (case side3=>repeat (first|exact (Kd.R_reads' HO158.out).2.2|(with_reducible refine bC ?_)))
       (case side4=>exact (Kd.R_reads' HO158.out).2.1)
       (case side5=>exact far_slice (IsS60.own_ne HI0.out HO158.out (by decide)))
       rintro e w21 ⟨rfl,hi,hb,hk⟩
       refine ⟨_,rfl,?_⟩
       have n0_:=Am (Kd.R_mono (Kd.R_keep (IsS60.apart (show IsS60 w0 _ g s0_0 x1001_1 from by repeat (first|(with_reducible first|exact HI0.out|apply IsS60.alloc|apply IsS60.drewN|apply IsS60.drew|apply IsS60.set_1|refine IsS60.far ?_ NB0_153.out _)|exact HI0.out)) (bR HO_154001.out) (by decide)) hk (fun _ h=>h.2)) (fun _ h=>h.1))
       have n1_:=Am (KeepBut.blk hk (bB BK153.out) NB153_0.out (by simp))
       have n2_:=Am (Kd.R_mono (Kd.R_keep (IsS60.apart (show IsS60 w0 _ g s0_0 x1001_1 from by repeat (first|(with_reducible first|exact HI0.out|apply IsS60.alloc|apply IsS60.drewN|apply IsS60.drew|apply IsS60.set_1|refine IsS60.far ?_ NB0_153.out _)|exact HI0.out)) (bR HO158.out) (by decide)) hk (fun _ h=>h.2)) (fun _ h=>h.1))
       have n3_:=Am (KeepBut.trans (by repeat (first|(with_reducible first|exact HK.out|apply KeepBut.set_|apply kN|apply kD|apply kA|refine keep_far ?_ GW153.out _)|exact HK.out)) hk (.inl rfl))
       have n4_:=Am (hb)
       have n5_:=Am (hi)
       clear HO_154001
       clear BK153
       clear HO158
       clear HK
       clear HB
       clear HI0
       have HO_154001:=n0_
       have BK153:=n1_
       have HO158:=n2_
       have HK:=n3_
       have HB:=n4_
       have HI0:=n5_
       clear n0_ n1_ n2_ n3_ n4_ n5_
       (try clear hb)
       (try clear hb2)
       (try clear hk)
       (try clear hi)
       refine hK.out _ _ ⟨bM BK153.out 0 rfl,bM BK153.out 1 rfl,bM BK153.out 2 rfl,bM BK153.out 3 rfl⟩ (fun hHeld=>?_)
       clear hK K
       refine norm_ (a':=?_) ?_ ?_
       rotate_left
       ·show Act.put _ (some 21) _ = _
        simp only [Act.put,List.setIfInBounds_toArray,List.set_cons_zero,List.set_cons_succ,i64_w,i32_w]
        rfl
       refine one_ (i:=5) (N:=some 22) #[true,true,true,true,true,true,false,false,false] rfl rfl (one_of HT_.out (by kernel_rfl)) (by decide) (fun K hK=>?_)
       refine value_ (w1:=?_) (v:=?_) (by rfl) rfl ?_ ?_
       rotate_left 2
       ·go_simp
        constructor
        ·rfl
        ·rfl
       refine hK.out _ _ ⟨(blk_cell (blk_alloc BK153.out _) 0).trans rfl,(blk_cell (blk_alloc BK153.out _) 1).trans rfl,(blk_cell (blk_alloc BK153.out _) 2).trans rfl,(blk_cell (blk_alloc BK153.out _) 3).trans rfl⟩ (fun hHeld=>?_)
       clear hK K
       refine norm_ (a':=?_) ?_ ?_
       rotate_left
       ·show Act.put _ (some 22) _ = _
        simp only [Act.put,List.setIfInBounds_toArray,List.set_cons_zero,List.set_cons_succ,i64_w,i32_w]
        rfl
       refine one_ (i:=6) (N:=some 23) #[true,true,true,true,true,true,true,false,false] rfl rfl (one_of HT_.out (by kernel_rfl)) (by decide) (fun K hK=>?_)
       refine Kd.R_append_step Kd.string w.heap.size (by rfl) (.tmp 18) (.tmp 22) 23 9 (.string ⟨#[]⟩) 16 rfl Tryd.underlying23 info9 rfl (by decide) (by omega) u154001 x154001_1 t159 [.string t159] (fun k_=>some k_ ≠ (.slice Ao20 y156.length co20:Value).ownBlock) (fun _=>False) rfl rfl ?aP (fun _ hk=>hk.elim) ?aF ?aO (Below.refl _ _) ?aS ?aL ?_
       (case aP=>exact rfl)
       (case aF=>exact (fun k_ hk=>Kd.fresh' (Kd.R_lt (bR HO158.out)) k_ hk))
       (case aO=>exact (by (with_reducible repeat (first|apply rA|apply rN|apply rD));exact Kd.R_mono HO_154001.out (fun _ hk=>hk.2)))
       (case aS=>exact (keep_size (w:=w) (g:=g) (row:=none) (by repeat (first|(with_reducible first|exact HK.out|apply KeepBut.set_|apply kN|apply kD|apply kA|refine keep_far ?_ GW153.out _)|exact HK.out))))
       (case aL=>have:=LMc16.out;omega)
       intro v162 w22 ho hb hg hat
       rw [← Ny161.out] at ho
       have n0_:=Am (blk_grown (bB BK153.out) hg (Kd.R_ne HO_154001.out BK153.out (by decide)))
       have n1_:=Am (IsS60.grown (by repeat (first|(with_reducible first|exact HI0.out|apply IsS60.alloc|apply IsS60.drewN|apply IsS60.drew|apply IsS60.set_1|refine IsS60.far ?_ NB0_153.out _)|exact HI0.out)) hg (IsS60.own_ne HI0.out HO_154001.out (by decide)))
       have n2_:=Am (Kd.R_after (ok:=(fun _=>True)) (bR HO158.out) hg hat)
       have n3_:=Am (below_weaken (by repeat (first|(with_reducible first|exact HB.out|apply bA|apply bN|apply bD|refine bS ?_ (IsS60.ge HI0.out)|refine bS ?_ GE153.out)|exact HB.out)) HL.out hb)
       have n4_:=Am (KeepBut.trans (by repeat (first|(with_reducible first|exact HK.out|apply KeepBut.set_|apply kN|apply kD|apply kA|refine keep_far ?_ GW153.out _)|exact HK.out)) (KeepBut.of_grown hg g) (Kd.R_base2 HO_154001.out))
       have n5_:=Am (ho)
       clear BK153
       clear HI0
       clear HO158
       clear HB
       clear HK
       clear HO_154001
       have BK153:=n0_
       have HI0:=n1_
       have HO158:=n2_
       have HB:=n3_
       have HK:=n4_
       have HO163:=n5_
       clear n0_ n1_ n2_ n3_ n4_ n5_
       clear ho hb hg hat
       obtain ⟨Ao23,co23,eo23⟩:=Kd.R_slice HO163.out
       (first|subst eo23|(injection eo23 with f1_ f2_ f3_;have f4_:=f1_.symm;have f5_:=f3_.symm;clear f1_ f2_ f3_;subst f4_;subst f5_))
       refine hK.out _ _ ⟨bM BK153.out 0 rfl,bM BK153.out 1 rfl,bM BK153.out 2 rfl,bM BK153.out 3 rfl⟩ (fun hHeld=>?_)
       clear hK K
       refine norm_ (a':=?_) ?_ ?_
       rotate_left
       ·show Act.put _ (some 23) _ = _
        simp only [Act.put,List.setIfInBounds_toArray,List.set_cons_zero,List.set_cons_succ,i64_w,i32_w]
        rfl
       refine pure_ (i:=7) (N:=some 24) (v:=?_) (a':=?_) #[true,true,true,true,true,true,true,true,false] rfl rfl (any_of HT_.out (by kernel_rfl)) (fun _ _ _ h=>h) (Or.inl ⟨by rfl,?_⟩) ?_ ?_
       rotate_left
       ·intro w'
        go_simp
        with_reducible rfl
       rotate_left
       ·simp only [Act.put,List.setIfInBounds_toArray,List.set_cons_zero,List.set_cons_succ,i64_w,i32_w]
        rfl
       refine last_ (i:=8) (N:=none) #[true,true,true,true,true,true,true,true,true] rfl rfl (one_of HT_.out (by kernel_rfl)) (by decide) (fun K hK=>?_)
       have hs24:w22.cell? ⟨gb153,1,none⟩ = some (u154001):=bM BK153.out 1 rfl
       have hfs24:=bZ BK153.out 1
       refine skip_ (w1:=?_) (by rfl) rfl ?_ ?_
       rotate_left
       ·go_simp
        rfl
       refine hK.out _ _ ?_
       clear hK K
       refine done_ (done_of HT_.out (by kernel_rfl)) ?_
       try go_wp2
       go_roundg k1
       case measure=>have:=HK1.out;omega
       case rel=>exact ⟨(wrap64 (x4_1 - 1)),(t160),(y161),(.slice Ao23 y161.length co23),(by first|rfl|(simp;done)|(simp only [i64_w,i32_w] <;> rfl)|(simp [*];done)|(simp [emp_bne,emp_beq];done)),H',⟨by have:=HK1.out;omega⟩,⟨by (with_reducible repeat (first|apply rA|apply rN|apply rD));exact Kd.R_mono (Kd.R_far (p:=⟨gb153,1,none⟩) (Kd.R_types HO163.out BK153.out (by decide)) (fun _ hk=>hk.2) (.slice Ao23 y161.length co23)) (fun _ hk=>trivial)⟩,⟨by refine bB ?_;refine blk_put (cs:=#[.string (rdOf ByteArray.empty t147 t150),u154001, .bool false, .string (⟨#[]⟩:ByteArray)]) ?_ 1 _ rfl;refine bB ?_;exact BK153.out⟩,⟨by repeat (first|(with_reducible first|exact HI0.out|apply IsS60.alloc|apply IsS60.drewN|apply IsS60.drew|apply IsS60.set_1|refine IsS60.far ?_ NB0_153.out _)|exact HI0.out)⟩,⟨by repeat (first|(with_reducible first|exact HK.out|apply KeepBut.set_|apply kN|apply kD|apply kA|refine keep_far ?_ GW153.out _)|exact HK.out)⟩,⟨by repeat (first|(with_reducible first|exact HB.out|apply bA|apply bN|apply bD|refine bS ?_ (IsS60.ge HI0.out)|refine bS ?_ GE153.out)|exact HB.out)⟩⟩
      ·rw [if_neg c16] at H
       exact absurd H (by simp)
     ·rw [if_neg c14] at H
      have c14b0:decide (0 < x4_1) = false:=decide_eq_false c14
      clear c14
      replace H:=bI H
      obtain ⟨⟨t164,t165⟩,A250,H⟩:=H
      replace H:(if t164 = 0 then ((spec_l6Rd_of.f k1 s0_0 t165 (([(⟨#[]⟩:ByteArray),(⟨#[97]⟩:ByteArray),(⟨#[98,37,51,68]⟩:ByteArray)]:List ByteArray))).bind fun bt169=>((spec_AddrText.f k1 (rdOf ByteArray.empty t147 t150) x154001_1 true bt169.1).bind fun t171=>(some (t171,bt169.2)))) else ((spec_AddrText.f k1 (rdOf ByteArray.empty t147 t150) x154001_1 false (⟨#[]⟩:ByteArray)).bind fun t172=>(some (t172,t165)))) = some (r1,r2):=H
      have A25:=Am A250
      clear A250
      by_cases c26:t164 = 0
      ·rw [if_pos c26] at H
       have c26b0:(t164 == 0) = true:=beq_iff_eq.mpr c26
       have c26b1:(t164 != 0) = false:=bne_eq_false_iff_eq.mpr c26
       clear c26
       obtain ⟨y166,hy166⟩:∃ y_:List ByteArray,y_ = (([(⟨#[]⟩:ByteArray),(⟨#[97]⟩:ByteArray),(⟨#[98,37,51,68]⟩:ByteArray)]:List ByteArray)):=⟨_,rfl⟩
       replace H:((spec_l6Rd_of.f k1 s0_0 t165 y166).bind fun bt169=>((spec_AddrText.f k1 (rdOf ByteArray.empty t147 t150) x154001_1 true bt169.1).bind fun t171=>(some (t171,bt169.2)))) = some (r1,r2):=by first|(rw [hy166];with_reducible exact H)|(have H2_:=(Option.bind_some _ _).symm.trans H;rw [hy166];with_reducible exact H2_)|(have H2_:=(Option.bind_some _ _).symm.trans H;with_reducible exact H2_)|with_reducible exact H|(rw [hy166];exact H)|exact H
       have Ny166:=Am hy166
       clear hy166
       replace H:=bI H
       obtain ⟨⟨t169,t170⟩,A270,H⟩:=H
       replace H:((spec_AddrText.f k1 (rdOf ByteArray.empty t147 t150) x154001_1 true t169).bind fun t171=>(some (t171,t170))) = some (r1,r2):=H
       have A27:=Am A270
       clear A270
       replace H:=bI H
       obtain ⟨t171,A280,H⟩:=H
       replace H:(some (t171,t170)) = some (r1,r2):=H
       have A28:=Am A280
       clear A280
       simp only [Option.some.injEq,Prod.mk.injEq] at H
       obtain ⟨rfl,rfl⟩:=H
       go_wp2_with (first|((with_reducible refine gate_callee (f:=52) rfl ?_);refine goesL_ (some 26) rfl rfl Tryd.func52 (by kernel_rfl) rfl #[.pointer (some ⟨g,0,none⟩), .int .i64 8] rfl (aE2 rfl rfl) ?_;(with_reducible refine (spec_l6Rd_pick.calls k1 g s0_0 x1001_1 8 t164 t165 w0 _ ?side1 ?side2 A25.out).mono ?_);(case side1=>repeat (first|(with_reducible first|exact HI0.out|apply IsS60.alloc|apply IsS60.drewN|apply IsS60.drew|apply IsS60.set_1|refine IsS60.far ?_ NB0_153.out _)|exact HI0.out));(case side2=>repeat (first|(with_reducible first|exact HB.out|apply bA|apply bN|apply bD|refine bS ?_ (IsS60.ge HI0.out)|refine bS ?_ GE153.out)|exact HB.out));rintro e w29 ⟨rfl,hi,hb,hk⟩;refine ⟨_,rfl,?_⟩;have n0_:=Am (Kd.R_mono (Kd.R_keep (IsS60.apart (show IsS60 w0 _ g s0_0 x1001_1 from by repeat (first|(with_reducible first|exact HI0.out|apply IsS60.alloc|apply IsS60.drewN|apply IsS60.drew|apply IsS60.set_1|refine IsS60.far ?_ NB0_153.out _)|exact HI0.out)) (bR HO_154001.out) (by decide)) hk (fun _ h=>h.2)) (fun _ h=>h.1));have n1_:=Am (KeepBut.blk hk (bB BK153.out) NB153_0.out (by simp));have n2_:=Am (KeepBut.trans (by repeat (first|(with_reducible first|exact HK.out|apply KeepBut.set_|apply kN|apply kD|apply kA|refine keep_far ?_ GW153.out _)|exact HK.out)) hk (.inl rfl));have n3_:=Am (hb);have n4_:=Am (hi);clear HO_154001 BK153 HK HB HI0;have HO_154001:=n0_;have BK153:=n1_;have HK:=n2_;have HB:=n3_;have HI0:=n4_;clear n0_ n1_ n2_ n3_ n4_;(try clear hb hk hi);have hnb30:=NB153_0.out;have hnc30:=NB0_153.out;have hcz31_0:w29.cell? ⟨gb153,0,none⟩ = some (.string (rdOf ByteArray.empty t147 t150)):=bM BK153.out 0 rfl;have hcz31_1:w29.cell? ⟨gb153,1,none⟩ = some (u154001):=bM BK153.out 1 rfl;have hcz31_2:w29.cell? ⟨gb153,2,none⟩ = some (.bool false):=bM BK153.out 2 rfl;have hcz31_3:w29.cell? ⟨gb153,3,none⟩ = some (.string (⟨#[]⟩:ByteArray)):=bM BK153.out 3 rfl;have hfz31_0:=bZ BK153.out 0;have hfz31_1:=bZ BK153.out 1;have hfz31_2:=bZ BK153.out 2;have hfz31_3:=bZ BK153.out 3)|((with_reducible refine gate_dst (N:=30) rfl ?_);refine Kd.R_lit Kd.string _ 9 ?hg (N:=30) ?hd (xs:=([(⟨#[]⟩:ByteArray),(⟨#[97]⟩:ByteArray),(⟨#[98,37,51,68]⟩:ByteArray)]:List ByteArray)) (inner:=[.string (⟨#[]⟩:ByteArray), .string (⟨#[97]⟩:ByteArray), .string (⟨#[98,37,51,68]⟩:ByteArray)]) (ok:=fun _=>True) (okp:=fun _=>True) ?hr ?hp (fun _ hk=>hk) trivial (Below.refl _ _) (Nat.le_refl _) (by simp) ?_;(case hd=>rfl);(case hg=>rfl);(case hr=>(go_simp <;> rfl));(case hp=>exact (Reps.one (show Kd.M Kd.string _ _ _ (⟨#[]⟩:ByteArray) [.string (⟨#[]⟩:ByteArray)] from rfl) (Reps.one (show Kd.M Kd.string _ _ _ (⟨#[97]⟩:ByteArray) [.string (⟨#[97]⟩:ByteArray)] from rfl) (Reps.one (show Kd.M Kd.string _ _ _ (⟨#[98,37,51,68]⟩:ByteArray) [.string (⟨#[98,37,51,68]⟩:ByteArray)] from rfl) (Reps.none _ _)))));intro v167 w32 ho33 hb hg_ hnew_;clear hg_ hnew_;(first|rw [← Ny166.out] at ho33|(simp only [Int.reduceToNat] at ho33;rw [← Ny166.out] at ho33));have n0_:=Am (Kd.R_elder' (by (with_reducible repeat (first|apply rA|apply rN|apply rD));exact (Kd.R_mono (Kd.R_far (p:=⟨gb153,2,none⟩) (Kd.R_types HO_154001.out BK153.out (by decide)) (fun _ hk=>hk.2) (.bool true)) (fun _ h_=>h_.1))) (Kd.R_base ho33) hb);have n1_:=Am (Kd.R_lower (Kd.R_new' ho33 (Kd.R_lt (by (with_reducible repeat (first|apply rA|apply rN|apply rD));exact (Kd.R_mono (Kd.R_far (p:=⟨gb153,2,none⟩) (Kd.R_types HO_154001.out BK153.out (by decide)) (fun _ hk=>hk.2) (.bool true)) (fun _ h_=>h_.1))))) (keep_size (w:=w) (g:=g) (row:=none) (by repeat (first|(with_reducible first|exact HK.out|apply KeepBut.set_|apply kN|apply kD|apply kA|refine keep_far ?_ GW153.out _)|exact HK.out))));have n2_:=Am (blk_below (g:=gb153) (o:=.cells #[.string (rdOf ByteArray.empty t147 t150),u154001, .bool true, .string (⟨#[]⟩:ByteArray)] 25 (0,0)) (by refine bB ?_;refine blk_put (cs:=#[.string (rdOf ByteArray.empty t147 t150),u154001, .bool false, .string (⟨#[]⟩:ByteArray)]) ?_ 2 _ rfl;refine bB ?_;exact BK153.out) hb);have n3_:=Am (IsS60.below (show IsS60 w0 (w29.setCell ⟨gb153,2,none⟩ (.bool true)) g s0_0 t165 from by repeat (first|(with_reducible first|exact HI0.out|apply IsS60.alloc|apply IsS60.drewN|apply IsS60.drew|apply IsS60.set_1|refine IsS60.far ?_ NB0_153.out _)|exact HI0.out)) hb);have n4_:=Am (KeepBut.trans (by repeat (first|(with_reducible first|exact HK.out|apply KeepBut.set_|apply kN|apply kD|apply kA|refine keep_far ?_ GW153.out _)|exact HK.out)) (KeepBut.of_below hb g none) (.inl rfl));have n5_:=Am (bT (by repeat (first|(with_reducible first|exact HB.out|apply bA|apply bN|apply bD|refine bS ?_ (IsS60.ge HI0.out)|refine bS ?_ GE153.out)|exact HB.out)) hb);clear HO_154001 BK153 HI0 HK HB;have HO_154001:=n0_;have HO168:=n1_;have BK153:=n2_;have HI0:=n3_;have HK:=n4_;have HB:=n5_;clear n0_ n1_ n2_ n3_ n4_ n5_ hb ho33;obtain ⟨Ao34,co34,eo34⟩:=Kd.R_slice HO168.out;subst eo34)|((with_reducible refine gate_callee (f:=53) rfl ?_);refine goesL_ (some 31) rfl rfl Tryd.func53 (by kernel_rfl) rfl #[.pointer (some ⟨g,0,none⟩), .slice Ao34 y166.length co34] rfl (aE2 rfl rfl) ?_;(with_reducible refine (spec_l6Rd_of.calls k1 g s0_0 t165 _ _ y166 t169 t170 w0 _ ?side1 ?side2 ?side3 ?side4 ?side5 A27.out).mono ?_);(case side1=>repeat (first|(with_reducible first|exact HI0.out|apply IsS60.alloc|apply IsS60.drewN|apply IsS60.drew|apply IsS60.set_1|refine IsS60.far ?_ NB0_153.out _)|exact HI0.out));(case side2=>repeat (first|(with_reducible first|exact HB.out|apply bA|apply bN|apply bD|refine bS ?_ (IsS60.ge HI0.out)|refine bS ?_ GE153.out)|exact HB.out));(case side3=>repeat (first|exact (Kd.R_reads' HO168.out).2.2|(with_reducible refine bC ?_)));(case side4=>exact (Kd.R_reads' HO168.out).2.1);(case side5=>exact far_slice (IsS60.own_ne HI0.out HO168.out (by decide)));rintro e w35 ⟨rfl,hi,hb,hk⟩;refine ⟨_,rfl,?_⟩;have n0_:=Am (Kd.R_mono (Kd.R_keep (IsS60.apart (show IsS60 w0 _ g s0_0 t165 from by repeat (first|(with_reducible first|exact HI0.out|apply IsS60.alloc|apply IsS60.drewN|apply IsS60.drew|apply IsS60.set_1|refine IsS60.far ?_ NB0_153.out _)|exact HI0.out)) (bR HO_154001.out) (by decide)) hk (fun _ h=>h.2)) (fun _ h=>h.1));have n1_:=Am (KeepBut.blk hk (bB BK153.out) NB153_0.out (by simp));have n2_:=Am (Kd.R_mono (Kd.R_keep (IsS60.apart (show IsS60 w0 _ g s0_0 t165 from by repeat (first|(with_reducible first|exact HI0.out|apply IsS60.alloc|apply IsS60.drewN|apply IsS60.drew|apply IsS60.set_1|refine IsS60.far ?_ NB0_153.out _)|exact HI0.out)) (bR HO168.out) (by decide)) hk (fun _ h=>h.2)) (fun _ h=>h.1));have n3_:=Am (KeepBut.trans (by repeat (first|(with_reducible first|exact HK.out|apply KeepBut.set_|apply kN|apply kD|apply kA|refine keep_far ?_ GW153.out _)|exact HK.out)) hk (.inl rfl));have n4_:=Am (hb);have n5_:=Am (hi);clear HO_154001 BK153 HO168 HK HB HI0;have HO_154001:=n0_;have BK153:=n1_;have HO168:=n2_;have HK:=n3_;have HB:=n4_;have HI0:=n5_;clear n0_ n1_ n2_ n3_ n4_ n5_;(try clear hb hk hi);have hcz36_0:w35.cell? ⟨gb153,0,none⟩ = some (.string (rdOf ByteArray.empty t147 t150)):=bM BK153.out 0 rfl;have hcz36_1:w35.cell? ⟨gb153,1,none⟩ = some (u154001):=bM BK153.out 1 rfl;have hcz36_2:w35.cell? ⟨gb153,2,none⟩ = some (.bool true):=bM BK153.out 2 rfl;have hcz36_3:w35.cell? ⟨gb153,3,none⟩ = some (.string (⟨#[]⟩:ByteArray)):=bM BK153.out 3 rfl;have hfz36_0:=bZ BK153.out 0;have hfz36_1:=bZ BK153.out 1;have hfz36_2:=bZ BK153.out 2;have hfz36_3:=bZ BK153.out 3;obtain ⟨Ao37,co37,eo37⟩:=Kd.R_slice HO_154001.out;subst eo37)|((with_reducible refine gate_callee (f:=76) rfl ?_);refine goesL_ (some 34) rfl rfl Tryd.func76 (by kernel_rfl) rfl #[.agg #[.string (rdOf ByteArray.empty t147 t150), .slice Ao37 x154001_1.length co37, .bool true, .string t169]] rfl (aE1 rfl) ?_;(with_reducible refine (spec_AddrText.calls k1 (rdOf ByteArray.empty t147 t150) _ _ x154001_1 true t169 t171 _ ?side1 ?side2 A28.out).mono ?_);(case side1=>refine (Kd.R_reads' (e:=9) (base:=w.heap.size) (ok:=fun k_=>(True ∧ some k_ ≠ (.slice Ao34 y166.length co34:Value).ownBlock)) (n:=x154001_1.length) (c:=co37) ?_).2.2;exact (by (with_reducible repeat (first|apply rA|apply rN|apply rD));exact (Kd.R_mono (Kd.R_far (p:=⟨gb153,3,none⟩) (Kd.R_types HO_154001.out BK153.out (by decide)) (fun _ hk=>hk.2) (.string t169)) (fun _ h_=>h_.1))));(case side2=>exact (Kd.R_reads' HO_154001.out).2.1);rintro e w38 ⟨rfl,hb⟩;refine ⟨_,rfl,?_⟩;have n0_:=Am (Kd.R_below (by (with_reducible repeat (first|apply rA|apply rN|apply rD));exact (Kd.R_mono (Kd.R_far (p:=⟨gb153,3,none⟩) (Kd.R_types HO_154001.out BK153.out (by decide)) (fun _ hk=>hk.2) (.string t169)) (fun _ h_=>h_.1))) hb);have n1_:=Am (Kd.R_below (by (with_reducible repeat (first|apply rA|apply rN|apply rD));exact (Kd.R_mono (Kd.R_far (p:=⟨gb153,3,none⟩) (Kd.R_types HO168.out BK153.out (by decide)) (fun _ hk=>hk.2) (.string t169)) (fun _ h_=>h_.1))) hb);have n2_:=Am (blk_below (g:=gb153) (o:=.cells #[.string (rdOf ByteArray.empty t147 t150), .slice Ao37 x154001_1.length co37, .bool true, .string t169] 25 (0,0)) (by refine bB ?_;refine blk_put (cs:=#[.string (rdOf ByteArray.empty t147 t150), .slice Ao37 x154001_1.length co37, .bool true, .string (⟨#[]⟩:ByteArray)]) ?_ 3 _ rfl;refine bB ?_;exact BK153.out) hb);have n3_:=Am (IsS60.below (show IsS60 w0 (w35.setCell ⟨gb153,3,none⟩ (.string t169)) g s0_0 t170 from by repeat (first|(with_reducible first|exact HI0.out|apply IsS60.alloc|apply IsS60.drewN|apply IsS60.drew|apply IsS60.set_1|refine IsS60.far ?_ NB0_153.out _)|exact HI0.out)) hb);have n4_:=Am (KeepBut.trans (by repeat (first|(with_reducible first|exact HK.out|apply KeepBut.set_|apply kN|apply kD|apply kA|refine keep_far ?_ GW153.out _)|exact HK.out)) (KeepBut.of_below hb g none) (.inl rfl));have n5_:=Am (bT (by repeat (first|(with_reducible first|exact HB.out|apply bA|apply bN|apply bD|refine bS ?_ (IsS60.ge HI0.out)|refine bS ?_ GE153.out)|exact HB.out)) hb);clear HO_154001 HO168 BK153 HI0 HK HB;have HO_154001:=n0_;have HO168:=n1_;have BK153:=n2_;have HI0:=n3_;have HK:=n4_;have HB:=n5_;clear n0_ n1_ n2_ n3_ n4_ n5_;(try clear hb)))
       go_ret
       exact ⟨by first|rfl|(simp <;> rfl)|(simp [*] <;> rfl),by repeat (first|(with_reducible first|exact HI0.out|apply IsS60.alloc|apply IsS60.drewN|apply IsS60.drew|apply IsS60.set_1|refine IsS60.far ?_ NB0_153.out _)|exact HI0.out),by repeat (first|(with_reducible first|exact HB.out|apply bA|apply bN|apply bD|refine bS ?_ (IsS60.ge HI0.out)|refine bS ?_ GE153.out)|exact HB.out),by repeat (first|(with_reducible first|exact HK.out|apply KeepBut.set_|apply kN|apply kD|apply kA|refine keep_far ?_ GW153.out _)|exact HK.out)⟩
      ·rw [if_neg c26] at H
       have c26b0:(t164 == 0) = false:=beq_eq_false_iff_ne.mpr c26
       have c26b1:(t164 != 0) = true:=bne_iff_ne.mpr c26
       replace H:=bI H
       obtain ⟨t172,A390,H⟩:=H
       replace H:(some (t172,t165)) = some (r1,r2):=H
       have A39:=Am A390
       clear A390
       simp only [Option.some.injEq,Prod.mk.injEq] at H
       obtain ⟨rfl,rfl⟩:=H
       go_wp2_with (first|((with_reducible refine gate_callee (f:=52) rfl ?_);refine goesL_ (some 26) rfl rfl Tryd.func52 (by kernel_rfl) rfl #[.pointer (some ⟨g,0,none⟩), .int .i64 8] rfl (aE2 rfl rfl) ?_;(with_reducible refine (spec_l6Rd_pick.calls k1 g s0_0 x1001_1 8 t164 t165 w0 _ ?side1 ?side2 A25.out).mono ?_);(case side1=>repeat (first|(with_reducible first|exact HI0.out|apply IsS60.alloc|apply IsS60.drewN|apply IsS60.drew|apply IsS60.set_1|refine IsS60.far ?_ NB0_153.out _)|exact HI0.out));(case side2=>repeat (first|(with_reducible first|exact HB.out|apply bA|apply bN|apply bD|refine bS ?_ (IsS60.ge HI0.out)|refine bS ?_ GE153.out)|exact HB.out));rintro e w40 ⟨rfl,hi,hb,hk⟩;refine ⟨_,rfl,?_⟩;have n0_:=Am (Kd.R_mono (Kd.R_keep (IsS60.apart (show IsS60 w0 _ g s0_0 x1001_1 from by repeat (first|(with_reducible first|exact HI0.out|apply IsS60.alloc|apply IsS60.drewN|apply IsS60.drew|apply IsS60.set_1|refine IsS60.far ?_ NB0_153.out _)|exact HI0.out)) (bR HO_154001.out) (by decide)) hk (fun _ h=>h.2)) (fun _ h=>h.1));have n1_:=Am (KeepBut.blk hk (bB BK153.out) NB153_0.out (by simp));have n2_:=Am (KeepBut.trans (by repeat (first|(with_reducible first|exact HK.out|apply KeepBut.set_|apply kN|apply kD|apply kA|refine keep_far ?_ GW153.out _)|exact HK.out)) hk (.inl rfl));have n3_:=Am (hb);have n4_:=Am (hi);clear HO_154001 BK153 HK HB HI0;have HO_154001:=n0_;have BK153:=n1_;have HK:=n2_;have HB:=n3_;have HI0:=n4_;clear n0_ n1_ n2_ n3_ n4_;(try clear hb hk hi);have hnb41:=NB153_0.out;have hnc41:=NB0_153.out;have hcz42_0:w40.cell? ⟨gb153,0,none⟩ = some (.string (rdOf ByteArray.empty t147 t150)):=bM BK153.out 0 rfl;have hcz42_1:w40.cell? ⟨gb153,1,none⟩ = some (u154001):=bM BK153.out 1 rfl;have hcz42_2:w40.cell? ⟨gb153,2,none⟩ = some (.bool false):=bM BK153.out 2 rfl;have hcz42_3:w40.cell? ⟨gb153,3,none⟩ = some (.string (⟨#[]⟩:ByteArray)):=bM BK153.out 3 rfl;have hfz42_0:=bZ BK153.out 0;have hfz42_1:=bZ BK153.out 1;have hfz42_2:=bZ BK153.out 2;have hfz42_3:=bZ BK153.out 3;obtain ⟨Ao43,co43,eo43⟩:=Kd.R_slice HO_154001.out;subst eo43)|((with_reducible refine gate_callee (f:=76) rfl ?_);refine goesL_ (some 34) rfl rfl Tryd.func76 (by kernel_rfl) rfl #[.agg #[.string (rdOf ByteArray.empty t147 t150), .slice Ao43 x154001_1.length co43, .bool false, .string (⟨#[]⟩:ByteArray)]] rfl (aE1 rfl) ?_;(with_reducible refine (spec_AddrText.calls k1 (rdOf ByteArray.empty t147 t150) _ _ x154001_1 false (⟨#[]⟩:ByteArray) t172 _ ?side1 ?side2 A39.out).mono ?_);(case side1=>repeat (first|exact (Kd.R_reads' HO_154001.out).2.2|(with_reducible refine bC ?_)));(case side2=>exact (Kd.R_reads' HO_154001.out).2.1);rintro e w44 ⟨rfl,hb⟩;refine ⟨_,rfl,?_⟩;have n0_:=Am (Kd.R_below (bR HO_154001.out) hb);have n1_:=Am (blk_below (bB BK153.out) hb);have n2_:=Am (IsS60.below (by repeat (first|(with_reducible first|exact HI0.out|apply IsS60.alloc|apply IsS60.drewN|apply IsS60.drew|apply IsS60.set_1|refine IsS60.far ?_ NB0_153.out _)|exact HI0.out)) hb);have n3_:=Am (KeepBut.trans (by repeat (first|(with_reducible first|exact HK.out|apply KeepBut.set_|apply kN|apply kD|apply kA|refine keep_far ?_ GW153.out _)|exact HK.out)) (KeepBut.of_below hb g none) (.inl rfl));have n4_:=Am (bT (by repeat (first|(with_reducible first|exact HB.out|apply bA|apply bN|apply bD|refine bS ?_ (IsS60.ge HI0.out)|refine bS ?_ GE153.out)|exact HB.out)) hb);clear HO_154001 BK153 HI0 HK HB;have HO_154001:=n0_;have BK153:=n1_;have HI0:=n2_;have HK:=n3_;have HB:=n4_;clear n0_ n1_ n2_ n3_ n4_;(try clear hb)))
       go_ret
       exact ⟨by first|rfl|(simp <;> rfl)|(simp [*] <;> rfl),by repeat (first|(with_reducible first|exact HI0.out|apply IsS60.alloc|apply IsS60.drewN|apply IsS60.drew|apply IsS60.set_1|refine IsS60.far ?_ NB0_153.out _)|exact HI0.out),by repeat (first|(with_reducible first|exact HB.out|apply bA|apply bN|apply bD|refine bS ?_ (IsS60.ge HI0.out)|refine bS ?_ GE153.out)|exact HB.out),by repeat (first|(with_reducible first|exact HK.out|apply KeepBut.set_|apply kN|apply kD|apply kA|refine keep_far ?_ GW153.out _)|exact HK.out)⟩
  ·rw [if_neg c5] at H
   exact absurd H (by simp)
 ·rw [if_neg c4] at H
  exact absurd H (by simp)

/-! ### spec_l71Ref: function 31 -/
def spec_l71Ref.j0:Nat → Int → Bool → List Int → Int → Option (ByteArray × Int)
 | 0,_,_,_,_=>none
 | k + 1,x4,x5,x1000,x1001=>if x5 = true then ((spec_l71Addr.f k x1000 x1001).bind fun bt175=>(some (bt175.1,bt175.2))) else (if x4 = 2 then ((spec_l6Rd_of.f k x1000 x1001 (([(⟨#[97]⟩:ByteArray),(⟨#[98]⟩:ByteArray),(⟨#[97,47,98]⟩:ByteArray),(⟨#[99,47,46,46,47,98]⟩:ByteArray),(⟨#[]⟩:ByteArray),(⟨#[120,47,46,47,99]⟩:ByteArray)]:List ByteArray))).bind fun bt180=>(if 1 + bt180.1.size ≤ 9223372036854775807 then (some ((⟨#[47]⟩:ByteArray) ++ bt180.1,bt180.2)) else (none))) else (if x4 = 3 then ((spec_l6Rd_of.f k x1000 x1001 (([(⟨#[46,46]⟩:ByteArray),(⟨#[46,46,47,99]⟩:ByteArray),(⟨#[46,46,47,46,46,47,46,46]⟩:ByteArray),(⟨#[46]⟩:ByteArray),(⟨#[46,47,97]⟩:ByteArray)]:List ByteArray))).bind fun bt185=>(some (bt185.1,bt185.2))) else (if x4 = 4 then ((spec_l6Rd_of.f k x1000 x1001 (([(⟨#[63,97]⟩:ByteArray),(⟨#[63]⟩:ByteArray),(⟨#[35,116,111,112]⟩:ByteArray),(⟨#[]⟩:ByteArray),(⟨#[97,35,98]⟩:ByteArray),(⟨#[98,63,97]⟩:ByteArray)]:List ByteArray))).bind fun bt190=>(some (bt190.1,bt190.2))) else (if x4 = 5 then ((spec_l6Rd_of.f k x1000 x1001 (([(⟨#[47,47,65,66,47,97]⟩:ByteArray),(⟨#[47,47,99,100]⟩:ByteArray),(⟨#[47,47,99,100,63,120]⟩:ByteArray),(⟨#[47,47,97,98,47,37,54,49]⟩:ByteArray),(⟨#[47,47,116,111,111,108,111,110,103,47,97]⟩:ByteArray),(⟨#[47,47,97,49,47,98]⟩:ByteArray),(⟨#[47,47,47,97]⟩:ByteArray)]:List ByteArray))).bind fun bt195=>(some (bt195.1,bt195.2))) else ((spec_l6Rd_of.f k x1000 x1001 (([(⟨#[97]⟩:ByteArray),(⟨#[98]⟩:ByteArray),(⟨#[99]⟩:ByteArray),(⟨#[97,47,98]⟩:ByteArray)]:List ByteArray))).bind fun bt200=>(some (bt200.1,bt200.2)))))))
def spec_l71Ref.f (k:Nat) (s0_0:List Int) (s0_1:Int):Option (ByteArray × Int):=(spec_l6Rd_pick.f k s0_0 s0_1 8).bind fun bt173=>(if bt173.1 = 0 then (spec_l71Ref.j0 k bt173.1 (bt173.1 == 0) s0_0 bt173.2) else (spec_l71Ref.j0 k bt173.1 (bt173.1 == 1) s0_0 bt173.2))
theorem spec_l71Ref.mono_l:∀ k,(∀ y0 y1 y2 y3,LeO (spec_l71Ref.j0 k y0 y1 y2 y3) (spec_l71Ref.j0 (k + 1) y0 y1 y2 y3))
 | 0=>fun _ _ _ _ r h=>by simp [spec_l71Ref.j0] at h
 | k + 1=>by
  have ih0:=spec_l71Ref.mono_l k
  ·intro y0 y1 y2 y3
   unfold spec_l71Ref.j0
   repeat' first
   | (with_reducible apply ih0)
   | (with_reducible apply spec_l6Rd_of.mono)
   | (with_reducible apply spec_l6Rd_pick.mono)
   | (with_reducible apply spec_l71Addr.mono)
   | (with_reducible exact LeO.refl _)
   | (with_reducible exact LeO.none _)
   | (with_reducible refine LeO.ite ?_ ?_)
   | (with_reducible refine LeO.bind ?_ (fun _=>?_))
   | exact ih0 _ _ _ _
   | exact spec_l6Rd_of.mono _ _ _ _
   | exact spec_l6Rd_pick.mono _ _ _ _
   | exact spec_l71Addr.mono _ _ _
   | exact LeO.none _
   | refine LeO.ite ?_ ?_
   | refine LeO.bind ?_ (fun _=>?_)
theorem spec_l71Ref.mono:∀ a0 a1 k,LeO (spec_l71Ref.f k a0 a1) (spec_l71Ref.f (k + 1) a0 a1):=by
 intro a0 a1 k
 have ih0:=spec_l71Ref.mono_l k
 unfold spec_l71Ref.f
 repeat' first
   | (with_reducible apply ih0)
   | (with_reducible apply spec_l6Rd_of.mono)
   | (with_reducible apply spec_l6Rd_pick.mono)
   | (with_reducible apply spec_l71Addr.mono)
   | (with_reducible exact LeO.refl _)
   | (with_reducible exact LeO.none _)
   | (with_reducible refine LeO.ite ?_ ?_)
   | (with_reducible refine LeO.bind ?_ (fun _=>?_))
   | exact ih0 _ _ _ _
   | exact spec_l6Rd_of.mono _ _ _ _
   | exact spec_l6Rd_pick.mono _ _ _ _
   | exact spec_l71Addr.mono _ _ _
   | exact LeO.none _
   | refine LeO.ite ?_ ?_
   | refine LeO.bind ?_ (fun _=>?_)
theorem spec_l71Ref.calls (k:Nat) (g:Nat) (s0_0:List Int) (s0_1:Int) (r1:ByteArray) (r2:Int) (w0 w:World) (hI:IsS60 w0 w g s0_0 s0_1) (hB:Below w0.heap.size w0 w) (h:spec_l71Ref.f k s0_0 s0_1 = some (r1,r2)) :
  Calls Tryd.prog 31 #[.pointer (some ⟨g,0,none⟩)] w fun e w'=>e = .returned (.string r1) ∧ IsS60 w0 w' g s0_0 r2 ∧ Below w0.heap.size w0 w' ∧ KeepBut w w' g none:=by
 have HI0:=Am hI
 have HK:=Am (KeepBut.refl w g none)
 have HL:=Am hB.size
 clear hI
 have HW0:=Am hB.size
 have HB:=Am hB
 clear hB
 have H:((spec_l6Rd_pick.f k s0_0 s0_1 8).bind fun bt173=>(if bt173.1 = 0 then (spec_l71Ref.j0 k bt173.1 (bt173.1 == 0) s0_0 bt173.2) else (spec_l71Ref.j0 k bt173.1 (bt173.1 == 1) s0_0 bt173.2))) = some (r1,r2):=h
 clear h
 replace H:=bI H
 obtain ⟨⟨t173,t174⟩,A20,H⟩:=H
 replace H:(if t173 = 0 then (spec_l71Ref.j0 k t173 (t173 == 0) s0_0 t174) else (spec_l71Ref.j0 k t173 (t173 == 1) s0_0 t174)) = some (r1,r2):=H
 have A2:=Am A20
 clear A20
 have HC3:=Am H
 clear H
 go_enter Tryd.func31,Tryd.ntmps31
 go_upto_if 5 with (first|((with_reducible refine gate_callee (f:=52) rfl ?_);refine goesL_ (some 4) rfl rfl Tryd.func52 (by kernel_rfl) rfl #[.pointer (some ⟨g,0,none⟩), .int .i64 8] rfl (aE2 rfl rfl) ?_;(with_reducible refine (spec_l6Rd_pick.calls k g s0_0 s0_1 8 t173 t174 w0 _ ?side1 ?side2 A2.out).mono ?_);(case side1=>repeat (first|(with_reducible first|exact HI0.out|apply IsS60.alloc|apply IsS60.drewN|apply IsS60.drew|apply IsS60.set_1)|exact HI0.out));(case side2=>repeat (first|(with_reducible first|exact HB.out|apply bA|apply bN|apply bD|refine bS ?_ (IsS60.ge HI0.out))|exact HB.out));rintro e w4 ⟨rfl,hi,hb,hk⟩;refine ⟨_,rfl,?_⟩;have n0_:=Am (KeepBut.trans (by repeat (first|(with_reducible first|exact HK.out|apply KeepBut.set_|apply kN|apply kD|apply kA)|exact HK.out)) hk (.inl rfl));have n1_:=Am (hb);have n2_:=Am (hi);clear HK HB HI0;have HK:=n0_;have HB:=n1_;have HI0:=n2_;clear n0_ n1_ n2_;(try clear hb hk hi)))
 (try simp only [Act.put,List.setIfInBounds_toArray,List.set_cons_zero,List.set_cons_succ])
 go_cut [5] (fun v5 wc=>∃ (kq:Nat) (x5_2:Bool),v5 = .bool x5_2 ∧ Aside0 (spec_l71Ref.j0 kq t173 x5_2 s0_0 t174 = some (r1,r2)) ∧ Aside0 (kq ≤ k) ∧ Aside0 (IsS60 w0 wc g s0_0 t174) ∧ Aside0 (KeepBut w wc g none) ∧ Aside0 (Below w0.heap.size w0 wc))
 case first =>
  have H:=HC3.out
  clear HC3
  by_cases c5:t173 = 0
  ·rw [if_pos c5] at H
   have c5b0:(t173 == 0) = true:=beq_iff_eq.mpr c5
   have c5b1:(t173 != 0) = false:=bne_eq_false_iff_eq.mpr c5
   clear c5
   (first|rw [c5b0]|(simp only [i64_w,i32_w];rw [c5b0])|skip)
   have H':=Am H
   clear H
   go_wp2
   go_meet
   case rel=>exact ⟨_,((t173 == 0)),(by first|rfl|(simp;done)|(simp only [i64_w,i32_w] <;> rfl)|(simp [*];done)|(simp [emp_bne,emp_beq];done)),H',⟨by first|omega|exact Nat.le_refl _⟩,⟨by repeat (first|(with_reducible first|exact HI0.out|apply IsS60.alloc|apply IsS60.drewN|apply IsS60.drew|apply IsS60.set_1)|exact HI0.out)⟩,⟨by repeat (first|(with_reducible first|exact HK.out|apply KeepBut.set_|apply kN|apply kD|apply kA)|exact HK.out)⟩,⟨by repeat (first|(with_reducible first|exact HB.out|apply bA|apply bN|apply bD|refine bS ?_ (IsS60.ge HI0.out))|exact HB.out)⟩⟩
  ·rw [if_neg c5] at H
   have c5b0:(t173 == 0) = false:=beq_eq_false_iff_ne.mpr c5
   have c5b1:(t173 != 0) = true:=bne_iff_ne.mpr c5
   (first|rw [c5b0]|(simp only [i64_w,i32_w];rw [c5b0])|skip)
   have H':=Am H
   clear H
   go_wp2
   go_meet
   case rel=>exact ⟨_,((t173 == 1)),(by first|rfl|(simp;done)|(simp only [i64_w,i32_w] <;> rfl)|(simp [*];done)|(simp [emp_bne,emp_beq];done)),H',⟨by first|omega|exact Nat.le_refl _⟩,⟨by repeat (first|(with_reducible first|exact HI0.out|apply IsS60.alloc|apply IsS60.drewN|apply IsS60.drew|apply IsS60.set_1)|exact HI0.out)⟩,⟨by repeat (first|(with_reducible first|exact HK.out|apply KeepBut.set_|apply kN|apply kD|apply kA)|exact HK.out)⟩,⟨by repeat (first|(with_reducible first|exact HB.out|apply bA|apply bN|apply bD|refine bS ?_ (IsS60.ge HI0.out))|exact HB.out)⟩⟩
 case rest =>
  clear HC3
  try clear p2
  try clear c3
  try clear c5
  try clear c5b0
  try clear c5b1
  obtain ⟨kq,x5_2,rfl,HA,HJ2,HI0,HK,HB⟩:=hcut
  cases kq with
  | zero=>exact absurd HA.out (by simp [spec_l71Ref.j0])
  | succ kj2 =>
   have H:=HA.out
   clear HA
   simp only [spec_l71Ref.j0] at H
   by_cases c6:x5_2 = true
   ·subst c6
    have H1:((spec_l71Addr.f kj2 s0_0 t174).bind fun bt175=>(some (bt175.1,bt175.2))) = some (r1,r2):=by rw [if_pos rfl] at H;exact H
    clear H
    have H:=H1
    clear H1
    replace H:=bI H
    obtain ⟨⟨t175,t176⟩,A70,H⟩:=H
    replace H:(some (t175,t176)) = some (r1,r2):=H
    have A7:=Am A70
    clear A70
    simp only [Option.some.injEq,Prod.mk.injEq] at H
    obtain ⟨rfl,rfl⟩:=H
    go_wp2_with (first|((with_reducible refine gate_callee (f:=57) rfl ?_);refine goesL_ (some 9) rfl rfl Tryd.func57 (by kernel_rfl) rfl #[.pointer (some ⟨g,0,none⟩)] rfl (aE1 rfl) ?_;(with_reducible refine (spec_l71Addr.calls kj2 g s0_0 t174 t175 t176 w0 _ ?side1 ?side2 A7.out).mono ?_);(case side1=>repeat (first|(with_reducible first|exact HI0.out|apply IsS60.alloc|apply IsS60.drewN|apply IsS60.drew|apply IsS60.set_1)|exact HI0.out));(case side2=>repeat (first|(with_reducible first|exact HB.out|apply bA|apply bN|apply bD|refine bS ?_ (IsS60.ge HI0.out))|exact HB.out));rintro e w8 ⟨rfl,hi,hb,hk⟩;refine ⟨_,rfl,?_⟩;have n0_:=Am (KeepBut.trans (by repeat (first|(with_reducible first|exact HK.out|apply KeepBut.set_|apply kN|apply kD|apply kA)|exact HK.out)) hk (.inl rfl));have n1_:=Am (hb);have n2_:=Am (hi);clear HK HB HI0;have HK:=n0_;have HB:=n1_;have HI0:=n2_;clear n0_ n1_ n2_;(try clear hb hk hi)))
    go_ret
    exact ⟨by first|rfl|(simp <;> rfl)|(simp [*] <;> rfl),by repeat (first|(with_reducible first|exact HI0.out|apply IsS60.alloc|apply IsS60.drewN|apply IsS60.drew|apply IsS60.set_1)|exact HI0.out),by repeat (first|(with_reducible first|exact HB.out|apply bA|apply bN|apply bD|refine bS ?_ (IsS60.ge HI0.out))|exact HB.out),by repeat (first|(with_reducible first|exact HK.out|apply KeepBut.set_|apply kN|apply kD|apply kA)|exact HK.out)⟩
   ·replace c6:=Bool.eq_false_iff.mpr c6
    subst c6
    have H1:(if t173 = 2 then ((spec_l6Rd_of.f kj2 s0_0 t174 (([(⟨#[97]⟩:ByteArray),(⟨#[98]⟩:ByteArray),(⟨#[97,47,98]⟩:ByteArray),(⟨#[99,47,46,46,47,98]⟩:ByteArray),(⟨#[]⟩:ByteArray),(⟨#[120,47,46,47,99]⟩:ByteArray)]:List ByteArray))).bind fun bt180=>(if 1 + bt180.1.size ≤ 9223372036854775807 then (some ((⟨#[47]⟩:ByteArray) ++ bt180.1,bt180.2)) else (none))) else (if t173 = 3 then ((spec_l6Rd_of.f kj2 s0_0 t174 (([(⟨#[46,46]⟩:ByteArray),(⟨#[46,46,47,99]⟩:ByteArray),(⟨#[46,46,47,46,46,47,46,46]⟩:ByteArray),(⟨#[46]⟩:ByteArray),(⟨#[46,47,97]⟩:ByteArray)]:List ByteArray))).bind fun bt185=>(some (bt185.1,bt185.2))) else (if t173 = 4 then ((spec_l6Rd_of.f kj2 s0_0 t174 (([(⟨#[63,97]⟩:ByteArray),(⟨#[63]⟩:ByteArray),(⟨#[35,116,111,112]⟩:ByteArray),(⟨#[]⟩:ByteArray),(⟨#[97,35,98]⟩:ByteArray),(⟨#[98,63,97]⟩:ByteArray)]:List ByteArray))).bind fun bt190=>(some (bt190.1,bt190.2))) else (if t173 = 5 then ((spec_l6Rd_of.f kj2 s0_0 t174 (([(⟨#[47,47,65,66,47,97]⟩:ByteArray),(⟨#[47,47,99,100]⟩:ByteArray),(⟨#[47,47,99,100,63,120]⟩:ByteArray),(⟨#[47,47,97,98,47,37,54,49]⟩:ByteArray),(⟨#[47,47,116,111,111,108,111,110,103,47,97]⟩:ByteArray),(⟨#[47,47,97,49,47,98]⟩:ByteArray),(⟨#[47,47,47,97]⟩:ByteArray)]:List ByteArray))).bind fun bt195=>(some (bt195.1,bt195.2))) else ((spec_l6Rd_of.f kj2 s0_0 t174 (([(⟨#[97]⟩:ByteArray),(⟨#[98]⟩:ByteArray),(⟨#[99]⟩:ByteArray),(⟨#[97,47,98]⟩:ByteArray)]:List ByteArray))).bind fun bt200=>(some (bt200.1,bt200.2))))))) = some (r1,r2):=by rw [if_neg (show ¬ (false = true) by decide)] at H;exact H
    clear H
    have H:=H1
    clear H1
    by_cases c9:t173 = 2
    ·rw [if_pos c9] at H
     have c9b0:(t173 == 2) = true:=beq_iff_eq.mpr c9
     have c9b1:(t173 != 2) = false:=bne_eq_false_iff_eq.mpr c9
     clear c9
     obtain ⟨y177,hy177⟩:∃ y_:List ByteArray,y_ = (([(⟨#[97]⟩:ByteArray),(⟨#[98]⟩:ByteArray),(⟨#[97,47,98]⟩:ByteArray),(⟨#[99,47,46,46,47,98]⟩:ByteArray),(⟨#[]⟩:ByteArray),(⟨#[120,47,46,47,99]⟩:ByteArray)]:List ByteArray)):=⟨_,rfl⟩
     replace H:((spec_l6Rd_of.f kj2 s0_0 t174 y177).bind fun bt180=>(if 1 + bt180.1.size ≤ 9223372036854775807 then (some ((⟨#[47]⟩:ByteArray) ++ bt180.1,bt180.2)) else (none))) = some (r1,r2):=by first|(rw [hy177];with_reducible exact H)|(have H2_:=(Option.bind_some _ _).symm.trans H;rw [hy177];with_reducible exact H2_)|(have H2_:=(Option.bind_some _ _).symm.trans H;with_reducible exact H2_)|with_reducible exact H|(rw [hy177];exact H)|exact H
     have Ny177:=Am hy177
     clear hy177
     replace H:=bI H
     obtain ⟨⟨t180,t181⟩,A100,H⟩:=H
     replace H:(if 1 + t180.size ≤ 9223372036854775807 then (some ((⟨#[47]⟩:ByteArray) ++ t180,t181)) else (none)) = some (r1,r2):=H
     have A10:=Am A100
     clear A100
     by_cases c11:1 + t180.size ≤ 9223372036854775807
     ·rw [if_pos c11] at H
      have c11b0:=eq_true c11
      have c11b1:=decide_eq_true c11
      try have c11b2:(9223372036854775807 < 1 + t180.size) = False:=eq_false (Nat.not_lt.2 c11)
      simp only [Option.some.injEq,Prod.mk.injEq] at H
      obtain ⟨rfl,rfl⟩:=H
      go_wp2_with (first|((with_reducible refine gate_dst (N:=13) rfl ?_);refine Kd.R_lit Kd.string _ 9 ?hg (N:=13) ?hd (xs:=([(⟨#[97]⟩:ByteArray),(⟨#[98]⟩:ByteArray),(⟨#[97,47,98]⟩:ByteArray),(⟨#[99,47,46,46,47,98]⟩:ByteArray),(⟨#[]⟩:ByteArray),(⟨#[120,47,46,47,99]⟩:ByteArray)]:List ByteArray)) (inner:=[.string (⟨#[97]⟩:ByteArray), .string (⟨#[98]⟩:ByteArray), .string (⟨#[97,47,98]⟩:ByteArray), .string (⟨#[99,47,46,46,47,98]⟩:ByteArray), .string (⟨#[]⟩:ByteArray), .string (⟨#[120,47,46,47,99]⟩:ByteArray)]) (ok:=fun _=>True) (okp:=fun _=>True) ?hr ?hp (fun _ hk=>hk) trivial (Below.refl _ _) (Nat.le_refl _) (by simp) ?_;(case hd=>rfl);(case hg=>rfl);(case hr=>(go_simp <;> rfl));(case hp=>exact (Reps.one (show Kd.M Kd.string _ _ _ (⟨#[97]⟩:ByteArray) [.string (⟨#[97]⟩:ByteArray)] from rfl) (Reps.one (show Kd.M Kd.string _ _ _ (⟨#[98]⟩:ByteArray) [.string (⟨#[98]⟩:ByteArray)] from rfl) (Reps.one (show Kd.M Kd.string _ _ _ (⟨#[97,47,98]⟩:ByteArray) [.string (⟨#[97,47,98]⟩:ByteArray)] from rfl) (Reps.one (show Kd.M Kd.string _ _ _ (⟨#[99,47,46,46,47,98]⟩:ByteArray) [.string (⟨#[99,47,46,46,47,98]⟩:ByteArray)] from rfl) (Reps.one (show Kd.M Kd.string _ _ _ (⟨#[]⟩:ByteArray) [.string (⟨#[]⟩:ByteArray)] from rfl) (Reps.one (show Kd.M Kd.string _ _ _ (⟨#[120,47,46,47,99]⟩:ByteArray) [.string (⟨#[120,47,46,47,99]⟩:ByteArray)] from rfl) (Reps.none _ _))))))));intro v178 w12 ho13 hb hg_ hnew_;clear hg_ hnew_;(first|rw [← Ny177.out] at ho13|(simp only [Int.reduceToNat] at ho13;rw [← Ny177.out] at ho13));have n0_:=Am (Kd.R_lower ho13 (keep_size (w:=w) (g:=g) (row:=none) (by repeat (first|(with_reducible first|exact HK.out|apply KeepBut.set_|apply kN|apply kD|apply kA)|exact HK.out))));have n1_:=Am (IsS60.below (by repeat (first|(with_reducible first|exact HI0.out|apply IsS60.alloc|apply IsS60.drewN|apply IsS60.drew|apply IsS60.set_1)|exact HI0.out)) hb);have n2_:=Am (KeepBut.trans (by repeat (first|(with_reducible first|exact HK.out|apply KeepBut.set_|apply kN|apply kD|apply kA)|exact HK.out)) (KeepBut.of_below hb g none) (.inl rfl));have n3_:=Am (bT (by repeat (first|(with_reducible first|exact HB.out|apply bA|apply bN|apply bD|refine bS ?_ (IsS60.ge HI0.out))|exact HB.out)) hb);clear HI0 HK HB;have HO179:=n0_;have HI0:=n1_;have HK:=n2_;have HB:=n3_;clear n0_ n1_ n2_ n3_ hb ho13;obtain ⟨Ao14,co14,eo14⟩:=Kd.R_slice HO179.out;subst eo14)|((with_reducible refine gate_callee (f:=53) rfl ?_);refine goesL_ (some 14) rfl rfl Tryd.func53 (by kernel_rfl) rfl #[.pointer (some ⟨g,0,none⟩), .slice Ao14 y177.length co14] rfl (aE2 rfl rfl) ?_;(with_reducible refine (spec_l6Rd_of.calls kj2 g s0_0 t174 _ _ y177 t180 t181 w0 _ ?side1 ?side2 ?side3 ?side4 ?side5 A10.out).mono ?_);(case side1=>repeat (first|(with_reducible first|exact HI0.out|apply IsS60.alloc|apply IsS60.drewN|apply IsS60.drew|apply IsS60.set_1)|exact HI0.out));(case side2=>repeat (first|(with_reducible first|exact HB.out|apply bA|apply bN|apply bD|refine bS ?_ (IsS60.ge HI0.out))|exact HB.out));(case side3=>repeat (first|exact (Kd.R_reads' HO179.out).2.2|(with_reducible refine bC ?_)));(case side4=>exact (Kd.R_reads' HO179.out).2.1);(case side5=>exact far_slice (IsS60.own_ne HI0.out HO179.out (by decide)));rintro e w15 ⟨rfl,hi,hb,hk⟩;refine ⟨_,rfl,?_⟩;have n0_:=Am (Kd.R_mono (Kd.R_keep (IsS60.apart (show IsS60 w0 _ g s0_0 t174 from by repeat (first|(with_reducible first|exact HI0.out|apply IsS60.alloc|apply IsS60.drewN|apply IsS60.drew|apply IsS60.set_1)|exact HI0.out)) (bR HO179.out) (by decide)) hk (fun _ h=>h.2)) (fun _ h=>h.1));have n1_:=Am (KeepBut.trans (by repeat (first|(with_reducible first|exact HK.out|apply KeepBut.set_|apply kN|apply kD|apply kA)|exact HK.out)) hk (.inl rfl));have n2_:=Am (hb);have n3_:=Am (hi);clear HO179 HK HB HI0;have HO179:=n0_;have HK:=n1_;have HB:=n2_;have HI0:=n3_;clear n0_ n1_ n2_ n3_;(try clear hb hk hi)))
      go_ret
      exact ⟨by first|rfl|(simp <;> rfl)|(simp [*] <;> rfl),by repeat (first|(with_reducible first|exact HI0.out|apply IsS60.alloc|apply IsS60.drewN|apply IsS60.drew|apply IsS60.set_1)|exact HI0.out),by repeat (first|(with_reducible first|exact HB.out|apply bA|apply bN|apply bD|refine bS ?_ (IsS60.ge HI0.out))|exact HB.out),by repeat (first|(with_reducible first|exact HK.out|apply KeepBut.set_|apply kN|apply kD|apply kA)|exact HK.out)⟩
     ·rw [if_neg c11] at H
      exact absurd H (by simp)
    ·rw [if_neg c9] at H
     have c9b0:(t173 == 2) = false:=beq_eq_false_iff_ne.mpr c9
     have c9b1:(t173 != 2) = true:=bne_iff_ne.mpr c9
     by_cases c16:t173 = 3
     ·rw [if_pos c16] at H
      have c16b0:(t173 == 3) = true:=beq_iff_eq.mpr c16
      have c16b1:(t173 != 3) = false:=bne_eq_false_iff_eq.mpr c16
      clear c16
      obtain ⟨y182,hy182⟩:∃ y_:List ByteArray,y_ = (([(⟨#[46,46]⟩:ByteArray),(⟨#[46,46,47,99]⟩:ByteArray),(⟨#[46,46,47,46,46,47,46,46]⟩:ByteArray),(⟨#[46]⟩:ByteArray),(⟨#[46,47,97]⟩:ByteArray)]:List ByteArray)):=⟨_,rfl⟩
      replace H:((spec_l6Rd_of.f kj2 s0_0 t174 y182).bind fun bt185=>(some (bt185.1,bt185.2))) = some (r1,r2):=by first|(rw [hy182];with_reducible exact H)|(have H2_:=(Option.bind_some _ _).symm.trans H;rw [hy182];with_reducible exact H2_)|(have H2_:=(Option.bind_some _ _).symm.trans H;with_reducible exact H2_)|with_reducible exact H|(rw [hy182];exact H)|exact H
      have Ny182:=Am hy182
      clear hy182
      replace H:=bI H
      obtain ⟨⟨t185,t186⟩,A170,H⟩:=H
      replace H:(some (t185,t186)) = some (r1,r2):=H
      have A17:=Am A170
      clear A170
      simp only [Option.some.injEq,Prod.mk.injEq] at H
      obtain ⟨rfl,rfl⟩:=H
      go_wp2_with (first|((with_reducible refine gate_dst (N:=19) rfl ?_);refine Kd.R_lit Kd.string _ 9 ?hg (N:=19) ?hd (xs:=([(⟨#[46,46]⟩:ByteArray),(⟨#[46,46,47,99]⟩:ByteArray),(⟨#[46,46,47,46,46,47,46,46]⟩:ByteArray),(⟨#[46]⟩:ByteArray),(⟨#[46,47,97]⟩:ByteArray)]:List ByteArray)) (inner:=[.string (⟨#[46,46]⟩:ByteArray), .string (⟨#[46,46,47,99]⟩:ByteArray), .string (⟨#[46,46,47,46,46,47,46,46]⟩:ByteArray), .string (⟨#[46]⟩:ByteArray), .string (⟨#[46,47,97]⟩:ByteArray)]) (ok:=fun _=>True) (okp:=fun _=>True) ?hr ?hp (fun _ hk=>hk) trivial (Below.refl _ _) (Nat.le_refl _) (by simp) ?_;(case hd=>rfl);(case hg=>rfl);(case hr=>(go_simp <;> rfl));(case hp=>exact (Reps.one (show Kd.M Kd.string _ _ _ (⟨#[46,46]⟩:ByteArray) [.string (⟨#[46,46]⟩:ByteArray)] from rfl) (Reps.one (show Kd.M Kd.string _ _ _ (⟨#[46,46,47,99]⟩:ByteArray) [.string (⟨#[46,46,47,99]⟩:ByteArray)] from rfl) (Reps.one (show Kd.M Kd.string _ _ _ (⟨#[46,46,47,46,46,47,46,46]⟩:ByteArray) [.string (⟨#[46,46,47,46,46,47,46,46]⟩:ByteArray)] from rfl) (Reps.one (show Kd.M Kd.string _ _ _ (⟨#[46]⟩:ByteArray) [.string (⟨#[46]⟩:ByteArray)] from rfl) (Reps.one (show Kd.M Kd.string _ _ _ (⟨#[46,47,97]⟩:ByteArray) [.string (⟨#[46,47,97]⟩:ByteArray)] from rfl) (Reps.none _ _)))))));intro v183 w18 ho19 hb hg_ hnew_;clear hg_ hnew_;(first|rw [← Ny182.out] at ho19|(simp only [Int.reduceToNat] at ho19;rw [← Ny182.out] at ho19));have n0_:=Am (Kd.R_lower ho19 (keep_size (w:=w) (g:=g) (row:=none) (by repeat (first|(with_reducible first|exact HK.out|apply KeepBut.set_|apply kN|apply kD|apply kA)|exact HK.out))));have n1_:=Am (IsS60.below (by repeat (first|(with_reducible first|exact HI0.out|apply IsS60.alloc|apply IsS60.drewN|apply IsS60.drew|apply IsS60.set_1)|exact HI0.out)) hb);have n2_:=Am (KeepBut.trans (by repeat (first|(with_reducible first|exact HK.out|apply KeepBut.set_|apply kN|apply kD|apply kA)|exact HK.out)) (KeepBut.of_below hb g none) (.inl rfl));have n3_:=Am (bT (by repeat (first|(with_reducible first|exact HB.out|apply bA|apply bN|apply bD|refine bS ?_ (IsS60.ge HI0.out))|exact HB.out)) hb);clear HI0 HK HB;have HO184:=n0_;have HI0:=n1_;have HK:=n2_;have HB:=n3_;clear n0_ n1_ n2_ n3_ hb ho19;obtain ⟨Ao20,co20,eo20⟩:=Kd.R_slice HO184.out;subst eo20)|((with_reducible refine gate_callee (f:=53) rfl ?_);refine goesL_ (some 20) rfl rfl Tryd.func53 (by kernel_rfl) rfl #[.pointer (some ⟨g,0,none⟩), .slice Ao20 y182.length co20] rfl (aE2 rfl rfl) ?_;(with_reducible refine (spec_l6Rd_of.calls kj2 g s0_0 t174 _ _ y182 t185 t186 w0 _ ?side1 ?side2 ?side3 ?side4 ?side5 A17.out).mono ?_);(case side1=>repeat (first|(with_reducible first|exact HI0.out|apply IsS60.alloc|apply IsS60.drewN|apply IsS60.drew|apply IsS60.set_1)|exact HI0.out));(case side2=>repeat (first|(with_reducible first|exact HB.out|apply bA|apply bN|apply bD|refine bS ?_ (IsS60.ge HI0.out))|exact HB.out));(case side3=>repeat (first|exact (Kd.R_reads' HO184.out).2.2|(with_reducible refine bC ?_)));(case side4=>exact (Kd.R_reads' HO184.out).2.1);(case side5=>exact far_slice (IsS60.own_ne HI0.out HO184.out (by decide)));rintro e w21 ⟨rfl,hi,hb,hk⟩;refine ⟨_,rfl,?_⟩;have n0_:=Am (Kd.R_mono (Kd.R_keep (IsS60.apart (show IsS60 w0 _ g s0_0 t174 from by repeat (first|(with_reducible first|exact HI0.out|apply IsS60.alloc|apply IsS60.drewN|apply IsS60.drew|apply IsS60.set_1)|exact HI0.out)) (bR HO184.out) (by decide)) hk (fun _ h=>h.2)) (fun _ h=>h.1));have n1_:=Am (KeepBut.trans (by repeat (first|(with_reducible first|exact HK.out|apply KeepBut.set_|apply kN|apply kD|apply kA)|exact HK.out)) hk (.inl rfl));have n2_:=Am (hb);have n3_:=Am (hi);clear HO184 HK HB HI0;have HO184:=n0_;have HK:=n1_;have HB:=n2_;have HI0:=n3_;clear n0_ n1_ n2_ n3_;(try clear hb hk hi)))
      go_ret
      exact ⟨by first|rfl|(simp <;> rfl)|(simp [*] <;> rfl),by repeat (first|(with_reducible first|exact HI0.out|apply IsS60.alloc|apply IsS60.drewN|apply IsS60.drew|apply IsS60.set_1)|exact HI0.out),by repeat (first|(with_reducible first|exact HB.out|apply bA|apply bN|apply bD|refine bS ?_ (IsS60.ge HI0.out))|exact HB.out),by repeat (first|(with_reducible first|exact HK.out|apply KeepBut.set_|apply kN|apply kD|apply kA)|exact HK.out)⟩
     ·rw [if_neg c16] at H
      have c16b0:(t173 == 3) = false:=beq_eq_false_iff_ne.mpr c16
      have c16b1:(t173 != 3) = true:=bne_iff_ne.mpr c16
      by_cases c22:t173 = 4
      ·rw [if_pos c22] at H
       have c22b0:(t173 == 4) = true:=beq_iff_eq.mpr c22
       have c22b1:(t173 != 4) = false:=bne_eq_false_iff_eq.mpr c22
       clear c22
       obtain ⟨y187,hy187⟩:∃ y_:List ByteArray,y_ = (([(⟨#[63,97]⟩:ByteArray),(⟨#[63]⟩:ByteArray),(⟨#[35,116,111,112]⟩:ByteArray),(⟨#[]⟩:ByteArray),(⟨#[97,35,98]⟩:ByteArray),(⟨#[98,63,97]⟩:ByteArray)]:List ByteArray)):=⟨_,rfl⟩
       replace H:((spec_l6Rd_of.f kj2 s0_0 t174 y187).bind fun bt190=>(some (bt190.1,bt190.2))) = some (r1,r2):=by first|(rw [hy187];with_reducible exact H)|(have H2_:=(Option.bind_some _ _).symm.trans H;rw [hy187];with_reducible exact H2_)|(have H2_:=(Option.bind_some _ _).symm.trans H;with_reducible exact H2_)|with_reducible exact H|(rw [hy187];exact H)|exact H
       have Ny187:=Am hy187
       clear hy187
       replace H:=bI H
       obtain ⟨⟨t190,t191⟩,A230,H⟩:=H
       replace H:(some (t190,t191)) = some (r1,r2):=H
       have A23:=Am A230
       clear A230
       simp only [Option.some.injEq,Prod.mk.injEq] at H
       obtain ⟨rfl,rfl⟩:=H
       go_wp2_with (first|((with_reducible refine gate_dst (N:=24) rfl ?_);refine Kd.R_lit Kd.string _ 9 ?hg (N:=24) ?hd (xs:=([(⟨#[63,97]⟩:ByteArray),(⟨#[63]⟩:ByteArray),(⟨#[35,116,111,112]⟩:ByteArray),(⟨#[]⟩:ByteArray),(⟨#[97,35,98]⟩:ByteArray),(⟨#[98,63,97]⟩:ByteArray)]:List ByteArray)) (inner:=[.string (⟨#[63,97]⟩:ByteArray), .string (⟨#[63]⟩:ByteArray), .string (⟨#[35,116,111,112]⟩:ByteArray), .string (⟨#[]⟩:ByteArray), .string (⟨#[97,35,98]⟩:ByteArray), .string (⟨#[98,63,97]⟩:ByteArray)]) (ok:=fun _=>True) (okp:=fun _=>True) ?hr ?hp (fun _ hk=>hk) trivial (Below.refl _ _) (Nat.le_refl _) (by simp) ?_;(case hd=>rfl);(case hg=>rfl);(case hr=>(go_simp <;> rfl));(case hp=>exact (Reps.one (show Kd.M Kd.string _ _ _ (⟨#[63,97]⟩:ByteArray) [.string (⟨#[63,97]⟩:ByteArray)] from rfl) (Reps.one (show Kd.M Kd.string _ _ _ (⟨#[63]⟩:ByteArray) [.string (⟨#[63]⟩:ByteArray)] from rfl) (Reps.one (show Kd.M Kd.string _ _ _ (⟨#[35,116,111,112]⟩:ByteArray) [.string (⟨#[35,116,111,112]⟩:ByteArray)] from rfl) (Reps.one (show Kd.M Kd.string _ _ _ (⟨#[]⟩:ByteArray) [.string (⟨#[]⟩:ByteArray)] from rfl) (Reps.one (show Kd.M Kd.string _ _ _ (⟨#[97,35,98]⟩:ByteArray) [.string (⟨#[97,35,98]⟩:ByteArray)] from rfl) (Reps.one (show Kd.M Kd.string _ _ _ (⟨#[98,63,97]⟩:ByteArray) [.string (⟨#[98,63,97]⟩:ByteArray)] from rfl) (Reps.none _ _))))))));intro v188 w24 ho25 hb hg_ hnew_;clear hg_ hnew_;(first|rw [← Ny187.out] at ho25|(simp only [Int.reduceToNat] at ho25;rw [← Ny187.out] at ho25));have n0_:=Am (Kd.R_lower ho25 (keep_size (w:=w) (g:=g) (row:=none) (by repeat (first|(with_reducible first|exact HK.out|apply KeepBut.set_|apply kN|apply kD|apply kA)|exact HK.out))));have n1_:=Am (IsS60.below (by repeat (first|(with_reducible first|exact HI0.out|apply IsS60.alloc|apply IsS60.drewN|apply IsS60.drew|apply IsS60.set_1)|exact HI0.out)) hb);have n2_:=Am (KeepBut.trans (by repeat (first|(with_reducible first|exact HK.out|apply KeepBut.set_|apply kN|apply kD|apply kA)|exact HK.out)) (KeepBut.of_below hb g none) (.inl rfl));have n3_:=Am (bT (by repeat (first|(with_reducible first|exact HB.out|apply bA|apply bN|apply bD|refine bS ?_ (IsS60.ge HI0.out))|exact HB.out)) hb);clear HI0 HK HB;have HO189:=n0_;have HI0:=n1_;have HK:=n2_;have HB:=n3_;clear n0_ n1_ n2_ n3_ hb ho25;obtain ⟨Ao26,co26,eo26⟩:=Kd.R_slice HO189.out;subst eo26)|((with_reducible refine gate_callee (f:=53) rfl ?_);refine goesL_ (some 25) rfl rfl Tryd.func53 (by kernel_rfl) rfl #[.pointer (some ⟨g,0,none⟩), .slice Ao26 y187.length co26] rfl (aE2 rfl rfl) ?_;(with_reducible refine (spec_l6Rd_of.calls kj2 g s0_0 t174 _ _ y187 t190 t191 w0 _ ?side1 ?side2 ?side3 ?side4 ?side5 A23.out).mono ?_);(case side1=>repeat (first|(with_reducible first|exact HI0.out|apply IsS60.alloc|apply IsS60.drewN|apply IsS60.drew|apply IsS60.set_1)|exact HI0.out));(case side2=>repeat (first|(with_reducible first|exact HB.out|apply bA|apply bN|apply bD|refine bS ?_ (IsS60.ge HI0.out))|exact HB.out));(case side3=>repeat (first|exact (Kd.R_reads' HO189.out).2.2|(with_reducible refine bC ?_)));(case side4=>exact (Kd.R_reads' HO189.out).2.1);(case side5=>exact far_slice (IsS60.own_ne HI0.out HO189.out (by decide)));rintro e w27 ⟨rfl,hi,hb,hk⟩;refine ⟨_,rfl,?_⟩;have n0_:=Am (Kd.R_mono (Kd.R_keep (IsS60.apart (show IsS60 w0 _ g s0_0 t174 from by repeat (first|(with_reducible first|exact HI0.out|apply IsS60.alloc|apply IsS60.drewN|apply IsS60.drew|apply IsS60.set_1)|exact HI0.out)) (bR HO189.out) (by decide)) hk (fun _ h=>h.2)) (fun _ h=>h.1));have n1_:=Am (KeepBut.trans (by repeat (first|(with_reducible first|exact HK.out|apply KeepBut.set_|apply kN|apply kD|apply kA)|exact HK.out)) hk (.inl rfl));have n2_:=Am (hb);have n3_:=Am (hi);clear HO189 HK HB HI0;have HO189:=n0_;have HK:=n1_;have HB:=n2_;have HI0:=n3_;clear n0_ n1_ n2_ n3_;(try clear hb hk hi)))
       go_ret
       exact ⟨by first|rfl|(simp <;> rfl)|(simp [*] <;> rfl),by repeat (first|(with_reducible first|exact HI0.out|apply IsS60.alloc|apply IsS60.drewN|apply IsS60.drew|apply IsS60.set_1)|exact HI0.out),by repeat (first|(with_reducible first|exact HB.out|apply bA|apply bN|apply bD|refine bS ?_ (IsS60.ge HI0.out))|exact HB.out),by repeat (first|(with_reducible first|exact HK.out|apply KeepBut.set_|apply kN|apply kD|apply kA)|exact HK.out)⟩
      ·rw [if_neg c22] at H
       have c22b0:(t173 == 4) = false:=beq_eq_false_iff_ne.mpr c22
       have c22b1:(t173 != 4) = true:=bne_iff_ne.mpr c22
       by_cases c28:t173 = 5
       ·rw [if_pos c28] at H
        have c28b0:(t173 == 5) = true:=beq_iff_eq.mpr c28
        have c28b1:(t173 != 5) = false:=bne_eq_false_iff_eq.mpr c28
        clear c28
        obtain ⟨y192,hy192⟩:∃ y_:List ByteArray,y_ = (([(⟨#[47,47,65,66,47,97]⟩:ByteArray),(⟨#[47,47,99,100]⟩:ByteArray),(⟨#[47,47,99,100,63,120]⟩:ByteArray),(⟨#[47,47,97,98,47,37,54,49]⟩:ByteArray),(⟨#[47,47,116,111,111,108,111,110,103,47,97]⟩:ByteArray),(⟨#[47,47,97,49,47,98]⟩:ByteArray),(⟨#[47,47,47,97]⟩:ByteArray)]:List ByteArray)):=⟨_,rfl⟩
        replace H:((spec_l6Rd_of.f kj2 s0_0 t174 y192).bind fun bt195=>(some (bt195.1,bt195.2))) = some (r1,r2):=by first|(rw [hy192];with_reducible exact H)|(have H2_:=(Option.bind_some _ _).symm.trans H;rw [hy192];with_reducible exact H2_)|(have H2_:=(Option.bind_some _ _).symm.trans H;with_reducible exact H2_)|with_reducible exact H|(rw [hy192];exact H)|exact H
        have Ny192:=Am hy192
        clear hy192
        replace H:=bI H
        obtain ⟨⟨t195,t196⟩,A290,H⟩:=H
        replace H:(some (t195,t196)) = some (r1,r2):=H
        have A29:=Am A290
        clear A290
        simp only [Option.some.injEq,Prod.mk.injEq] at H
        obtain ⟨rfl,rfl⟩:=H
        go_wp2_with (first|((with_reducible refine gate_dst (N:=29) rfl ?_);refine Kd.R_lit Kd.string _ 9 ?hg (N:=29) ?hd (xs:=([(⟨#[47,47,65,66,47,97]⟩:ByteArray),(⟨#[47,47,99,100]⟩:ByteArray),(⟨#[47,47,99,100,63,120]⟩:ByteArray),(⟨#[47,47,97,98,47,37,54,49]⟩:ByteArray),(⟨#[47,47,116,111,111,108,111,110,103,47,97]⟩:ByteArray),(⟨#[47,47,97,49,47,98]⟩:ByteArray),(⟨#[47,47,47,97]⟩:ByteArray)]:List ByteArray)) (inner:=[.string (⟨#[47,47,65,66,47,97]⟩:ByteArray), .string (⟨#[47,47,99,100]⟩:ByteArray), .string (⟨#[47,47,99,100,63,120]⟩:ByteArray), .string (⟨#[47,47,97,98,47,37,54,49]⟩:ByteArray), .string (⟨#[47,47,116,111,111,108,111,110,103,47,97]⟩:ByteArray), .string (⟨#[47,47,97,49,47,98]⟩:ByteArray), .string (⟨#[47,47,47,97]⟩:ByteArray)]) (ok:=fun _=>True) (okp:=fun _=>True) ?hr ?hp (fun _ hk=>hk) trivial (Below.refl _ _) (Nat.le_refl _) (by simp) ?_;(case hd=>rfl);(case hg=>rfl);(case hr=>(go_simp <;> rfl));(case hp=>exact (Reps.one (show Kd.M Kd.string _ _ _ (⟨#[47,47,65,66,47,97]⟩:ByteArray) [.string (⟨#[47,47,65,66,47,97]⟩:ByteArray)] from rfl) (Reps.one (show Kd.M Kd.string _ _ _ (⟨#[47,47,99,100]⟩:ByteArray) [.string (⟨#[47,47,99,100]⟩:ByteArray)] from rfl) (Reps.one (show Kd.M Kd.string _ _ _ (⟨#[47,47,99,100,63,120]⟩:ByteArray) [.string (⟨#[47,47,99,100,63,120]⟩:ByteArray)] from rfl) (Reps.one (show Kd.M Kd.string _ _ _ (⟨#[47,47,97,98,47,37,54,49]⟩:ByteArray) [.string (⟨#[47,47,97,98,47,37,54,49]⟩:ByteArray)] from rfl) (Reps.one (show Kd.M Kd.string _ _ _ (⟨#[47,47,116,111,111,108,111,110,103,47,97]⟩:ByteArray) [.string (⟨#[47,47,116,111,111,108,111,110,103,47,97]⟩:ByteArray)] from rfl) (Reps.one (show Kd.M Kd.string _ _ _ (⟨#[47,47,97,49,47,98]⟩:ByteArray) [.string (⟨#[47,47,97,49,47,98]⟩:ByteArray)] from rfl) (Reps.one (show Kd.M Kd.string _ _ _ (⟨#[47,47,47,97]⟩:ByteArray) [.string (⟨#[47,47,47,97]⟩:ByteArray)] from rfl) (Reps.none _ _)))))))));intro v193 w30 ho31 hb hg_ hnew_;clear hg_ hnew_;(first|rw [← Ny192.out] at ho31|(simp only [Int.reduceToNat] at ho31;rw [← Ny192.out] at ho31));have n0_:=Am (Kd.R_lower ho31 (keep_size (w:=w) (g:=g) (row:=none) (by repeat (first|(with_reducible first|exact HK.out|apply KeepBut.set_|apply kN|apply kD|apply kA)|exact HK.out))));have n1_:=Am (IsS60.below (by repeat (first|(with_reducible first|exact HI0.out|apply IsS60.alloc|apply IsS60.drewN|apply IsS60.drew|apply IsS60.set_1)|exact HI0.out)) hb);have n2_:=Am (KeepBut.trans (by repeat (first|(with_reducible first|exact HK.out|apply KeepBut.set_|apply kN|apply kD|apply kA)|exact HK.out)) (KeepBut.of_below hb g none) (.inl rfl));have n3_:=Am (bT (by repeat (first|(with_reducible first|exact HB.out|apply bA|apply bN|apply bD|refine bS ?_ (IsS60.ge HI0.out))|exact HB.out)) hb);clear HI0 HK HB;have HO194:=n0_;have HI0:=n1_;have HK:=n2_;have HB:=n3_;clear n0_ n1_ n2_ n3_ hb ho31;obtain ⟨Ao32,co32,eo32⟩:=Kd.R_slice HO194.out;subst eo32)|((with_reducible refine gate_callee (f:=53) rfl ?_);refine goesL_ (some 30) rfl rfl Tryd.func53 (by kernel_rfl) rfl #[.pointer (some ⟨g,0,none⟩), .slice Ao32 y192.length co32] rfl (aE2 rfl rfl) ?_;(with_reducible refine (spec_l6Rd_of.calls kj2 g s0_0 t174 _ _ y192 t195 t196 w0 _ ?side1 ?side2 ?side3 ?side4 ?side5 A29.out).mono ?_);(case side1=>repeat (first|(with_reducible first|exact HI0.out|apply IsS60.alloc|apply IsS60.drewN|apply IsS60.drew|apply IsS60.set_1)|exact HI0.out));(case side2=>repeat (first|(with_reducible first|exact HB.out|apply bA|apply bN|apply bD|refine bS ?_ (IsS60.ge HI0.out))|exact HB.out));(case side3=>repeat (first|exact (Kd.R_reads' HO194.out).2.2|(with_reducible refine bC ?_)));(case side4=>exact (Kd.R_reads' HO194.out).2.1);(case side5=>exact far_slice (IsS60.own_ne HI0.out HO194.out (by decide)));rintro e w33 ⟨rfl,hi,hb,hk⟩;refine ⟨_,rfl,?_⟩;have n0_:=Am (Kd.R_mono (Kd.R_keep (IsS60.apart (show IsS60 w0 _ g s0_0 t174 from by repeat (first|(with_reducible first|exact HI0.out|apply IsS60.alloc|apply IsS60.drewN|apply IsS60.drew|apply IsS60.set_1)|exact HI0.out)) (bR HO194.out) (by decide)) hk (fun _ h=>h.2)) (fun _ h=>h.1));have n1_:=Am (KeepBut.trans (by repeat (first|(with_reducible first|exact HK.out|apply KeepBut.set_|apply kN|apply kD|apply kA)|exact HK.out)) hk (.inl rfl));have n2_:=Am (hb);have n3_:=Am (hi);clear HO194 HK HB HI0;have HO194:=n0_;have HK:=n1_;have HB:=n2_;have HI0:=n3_;clear n0_ n1_ n2_ n3_;(try clear hb hk hi)))
        go_ret
        exact ⟨by first|rfl|(simp <;> rfl)|(simp [*] <;> rfl),by repeat (first|(with_reducible first|exact HI0.out|apply IsS60.alloc|apply IsS60.drewN|apply IsS60.drew|apply IsS60.set_1)|exact HI0.out),by repeat (first|(with_reducible first|exact HB.out|apply bA|apply bN|apply bD|refine bS ?_ (IsS60.ge HI0.out))|exact HB.out),by repeat (first|(with_reducible first|exact HK.out|apply KeepBut.set_|apply kN|apply kD|apply kA)|exact HK.out)⟩
       ·rw [if_neg c28] at H
        have c28b0:(t173 == 5) = false:=beq_eq_false_iff_ne.mpr c28
        have c28b1:(t173 != 5) = true:=bne_iff_ne.mpr c28
        obtain ⟨y197,hy197⟩:∃ y_:List ByteArray,y_ = (([(⟨#[97]⟩:ByteArray),(⟨#[98]⟩:ByteArray),(⟨#[99]⟩:ByteArray),(⟨#[97,47,98]⟩:ByteArray)]:List ByteArray)):=⟨_,rfl⟩
        replace H:((spec_l6Rd_of.f kj2 s0_0 t174 y197).bind fun bt200=>(some (bt200.1,bt200.2))) = some (r1,r2):=by first|(rw [hy197];with_reducible exact H)|(have H2_:=(Option.bind_some _ _).symm.trans H;rw [hy197];with_reducible exact H2_)|(have H2_:=(Option.bind_some _ _).symm.trans H;with_reducible exact H2_)|with_reducible exact H|(rw [hy197];exact H)|exact H
        have Ny197:=Am hy197
        clear hy197
        replace H:=bI H
        obtain ⟨⟨t200,t201⟩,A340,H⟩:=H
        replace H:(some (t200,t201)) = some (r1,r2):=H
        have A34:=Am A340
        clear A340
        simp only [Option.some.injEq,Prod.mk.injEq] at H
        obtain ⟨rfl,rfl⟩:=H
        go_wp2_with (first|((with_reducible refine gate_dst (N:=32) rfl ?_);refine Kd.R_lit Kd.string _ 9 ?hg (N:=32) ?hd (xs:=([(⟨#[97]⟩:ByteArray),(⟨#[98]⟩:ByteArray),(⟨#[99]⟩:ByteArray),(⟨#[97,47,98]⟩:ByteArray)]:List ByteArray)) (inner:=[.string (⟨#[97]⟩:ByteArray), .string (⟨#[98]⟩:ByteArray), .string (⟨#[99]⟩:ByteArray), .string (⟨#[97,47,98]⟩:ByteArray)]) (ok:=fun _=>True) (okp:=fun _=>True) ?hr ?hp (fun _ hk=>hk) trivial (Below.refl _ _) (Nat.le_refl _) (by simp) ?_;(case hd=>rfl);(case hg=>rfl);(case hr=>(go_simp <;> rfl));(case hp=>exact (Reps.one (show Kd.M Kd.string _ _ _ (⟨#[97]⟩:ByteArray) [.string (⟨#[97]⟩:ByteArray)] from rfl) (Reps.one (show Kd.M Kd.string _ _ _ (⟨#[98]⟩:ByteArray) [.string (⟨#[98]⟩:ByteArray)] from rfl) (Reps.one (show Kd.M Kd.string _ _ _ (⟨#[99]⟩:ByteArray) [.string (⟨#[99]⟩:ByteArray)] from rfl) (Reps.one (show Kd.M Kd.string _ _ _ (⟨#[97,47,98]⟩:ByteArray) [.string (⟨#[97,47,98]⟩:ByteArray)] from rfl) (Reps.none _ _))))));intro v198 w35 ho36 hb hg_ hnew_;clear hg_ hnew_;(first|rw [← Ny197.out] at ho36|(simp only [Int.reduceToNat] at ho36;rw [← Ny197.out] at ho36));have n0_:=Am (Kd.R_lower ho36 (keep_size (w:=w) (g:=g) (row:=none) (by repeat (first|(with_reducible first|exact HK.out|apply KeepBut.set_|apply kN|apply kD|apply kA)|exact HK.out))));have n1_:=Am (IsS60.below (by repeat (first|(with_reducible first|exact HI0.out|apply IsS60.alloc|apply IsS60.drewN|apply IsS60.drew|apply IsS60.set_1)|exact HI0.out)) hb);have n2_:=Am (KeepBut.trans (by repeat (first|(with_reducible first|exact HK.out|apply KeepBut.set_|apply kN|apply kD|apply kA)|exact HK.out)) (KeepBut.of_below hb g none) (.inl rfl));have n3_:=Am (bT (by repeat (first|(with_reducible first|exact HB.out|apply bA|apply bN|apply bD|refine bS ?_ (IsS60.ge HI0.out))|exact HB.out)) hb);clear HI0 HK HB;have HO199:=n0_;have HI0:=n1_;have HK:=n2_;have HB:=n3_;clear n0_ n1_ n2_ n3_ hb ho36;obtain ⟨Ao37,co37,eo37⟩:=Kd.R_slice HO199.out;subst eo37)|((with_reducible refine gate_callee (f:=53) rfl ?_);refine goesL_ (some 33) rfl rfl Tryd.func53 (by kernel_rfl) rfl #[.pointer (some ⟨g,0,none⟩), .slice Ao37 y197.length co37] rfl (aE2 rfl rfl) ?_;(with_reducible refine (spec_l6Rd_of.calls kj2 g s0_0 t174 _ _ y197 t200 t201 w0 _ ?side1 ?side2 ?side3 ?side4 ?side5 A34.out).mono ?_);(case side1=>repeat (first|(with_reducible first|exact HI0.out|apply IsS60.alloc|apply IsS60.drewN|apply IsS60.drew|apply IsS60.set_1)|exact HI0.out));(case side2=>repeat (first|(with_reducible first|exact HB.out|apply bA|apply bN|apply bD|refine bS ?_ (IsS60.ge HI0.out))|exact HB.out));(case side3=>repeat (first|exact (Kd.R_reads' HO199.out).2.2|(with_reducible refine bC ?_)));(case side4=>exact (Kd.R_reads' HO199.out).2.1);(case side5=>exact far_slice (IsS60.own_ne HI0.out HO199.out (by decide)));rintro e w38 ⟨rfl,hi,hb,hk⟩;refine ⟨_,rfl,?_⟩;have n0_:=Am (Kd.R_mono (Kd.R_keep (IsS60.apart (show IsS60 w0 _ g s0_0 t174 from by repeat (first|(with_reducible first|exact HI0.out|apply IsS60.alloc|apply IsS60.drewN|apply IsS60.drew|apply IsS60.set_1)|exact HI0.out)) (bR HO199.out) (by decide)) hk (fun _ h=>h.2)) (fun _ h=>h.1));have n1_:=Am (KeepBut.trans (by repeat (first|(with_reducible first|exact HK.out|apply KeepBut.set_|apply kN|apply kD|apply kA)|exact HK.out)) hk (.inl rfl));have n2_:=Am (hb);have n3_:=Am (hi);clear HO199 HK HB HI0;have HO199:=n0_;have HK:=n1_;have HB:=n2_;have HI0:=n3_;clear n0_ n1_ n2_ n3_;(try clear hb hk hi)))
        go_ret
        exact ⟨by first|rfl|(simp <;> rfl)|(simp [*] <;> rfl),by repeat (first|(with_reducible first|exact HI0.out|apply IsS60.alloc|apply IsS60.drewN|apply IsS60.drew|apply IsS60.set_1)|exact HI0.out),by repeat (first|(with_reducible first|exact HB.out|apply bA|apply bN|apply bD|refine bS ?_ (IsS60.ge HI0.out))|exact HB.out),by repeat (first|(with_reducible first|exact HK.out|apply KeepBut.set_|apply kN|apply kD|apply kA)|exact HK.out)⟩

/-! ### spec_AddrRead: function 25 -/
def spec_AddrRead.f (k:Nat) (a0:ByteArray):Option (ByteArray × List ByteArray × Bool × ByteArray × Bool):=(spec_l1Cut.f k a0 35).bind fun bt303=>(if (a0.size:Int) > 60 then (some ((⟨#[]⟩:ByteArray),([]:List ByteArray),false,(⟨#[]⟩:ByteArray),false)) else (if (bt303.1.size:Int) < 2 then (some ((⟨#[]⟩:ByteArray),([]:List ByteArray),false,(⟨#[]⟩:ByteArray),false)) else (if 0 ≤ 2 then (if 2 ≤ (bt303.1.size:Int) then (if (bt303.1.extract 0 2).toList = ([47,47]:List UInt8) then ((spec_l1Whole.f k (bt303.1.extract 2 bt303.1.size)).bind fun bt306=>(some (bt306.1,bt306.2.1,bt306.2.2.1,bt306.2.2.2.1,bt306.2.2.2.2))) else (some ((⟨#[]⟩:ByteArray),([]:List ByteArray),false,(⟨#[]⟩:ByteArray),false))) else (none)) else (none))))
theorem spec_AddrRead.mono:∀ a0 k,LeO (spec_AddrRead.f k a0) (spec_AddrRead.f (k + 1) a0):=by
 intro a0 k
 unfold spec_AddrRead.f
 repeat' first
   | (with_reducible apply spec_l1Cut.mono)
   | (with_reducible apply spec_l1Whole.mono)
   | (with_reducible exact LeO.refl _)
   | (with_reducible exact LeO.none _)
   | (with_reducible refine LeO.ite ?_ ?_)
   | (with_reducible refine LeO.bind ?_ (fun _=>?_))
   | exact spec_l1Cut.mono _ _ _
   | exact spec_l1Whole.mono _ _
   | exact LeO.none _
   | refine LeO.ite ?_ ?_
   | refine LeO.bind ?_ (fun _=>?_)
theorem spec_AddrRead.calls (k:Nat) (a0:ByteArray) (r1:ByteArray) (r2:List ByteArray) (r3:Bool) (r4:ByteArray) (r5:Bool) (w:World) (h:spec_AddrRead.f k a0 = some (r1,r2,r3,r4,r5)) :
  Calls Tryd.prog 25 #[.string a0] w fun e w'=>∃ v1_:Value,e = .returned (.tuple #[.agg #[.string r1,v1_, .bool r3, .string r4], .bool r5]) ∧ Kd.R Kd.string 9 w' w.heap.size (fun _=>True) v1_ r2 ∧ Below w.heap.size w w':=by
 have hu25:=Tryd.underlying25
 have HB:=Am (Below.refl w.heap.size w)
 have H:((spec_l1Cut.f k a0 35).bind fun bt303=>(if (a0.size:Int) > 60 then (some ((⟨#[]⟩:ByteArray),([]:List ByteArray),false,(⟨#[]⟩:ByteArray),false)) else (if (bt303.1.size:Int) < 2 then (some ((⟨#[]⟩:ByteArray),([]:List ByteArray),false,(⟨#[]⟩:ByteArray),false)) else (if 0 ≤ 2 then (if 2 ≤ (bt303.1.size:Int) then (if (bt303.1.extract 0 2).toList = ([47,47]:List UInt8) then ((spec_l1Whole.f k (bt303.1.extract 2 bt303.1.size)).bind fun bt306=>(some (bt306.1,bt306.2.1,bt306.2.2.1,bt306.2.2.2.1,bt306.2.2.2.2))) else (some ((⟨#[]⟩:ByteArray),([]:List ByteArray),false,(⟨#[]⟩:ByteArray),false))) else (none)) else (none))))) = some (r1,r2,r3,r4,r5):=h
 clear h
 replace H:=bI H
 obtain ⟨⟨t303,t304,t305⟩,A20,H⟩:=H
 replace H:(if (a0.size:Int) > 60 then (some ((⟨#[]⟩:ByteArray),([]:List ByteArray),false,(⟨#[]⟩:ByteArray),false)) else (if (t303.size:Int) < 2 then (some ((⟨#[]⟩:ByteArray),([]:List ByteArray),false,(⟨#[]⟩:ByteArray),false)) else (if 0 ≤ 2 then (if 2 ≤ (t303.size:Int) then (if (t303.extract 0 2).toList = ([47,47]:List UInt8) then ((spec_l1Whole.f k (t303.extract 2 t303.size)).bind fun bt306=>(some (bt306.1,bt306.2.1,bt306.2.2.1,bt306.2.2.2.1,bt306.2.2.2.2))) else (some ((⟨#[]⟩:ByteArray),([]:List ByteArray),false,(⟨#[]⟩:ByteArray),false))) else (none)) else (none)))) = some (r1,r2,r3,r4,r5):=H
 have A2:=Am A20
 clear A20
 by_cases c3:(a0.size:Int) > 60
 ·rw [if_pos c3] at H
  have c3b0:decide (60 < (a0.size:Int)) = true:=decide_eq_true c3
  have c3b1:decide (60 < a0.size) = true:=decide_eq_true (by omega)
  clear c3
  simp only [Option.some.injEq,Prod.mk.injEq] at H
  obtain ⟨rfl,rfl,rfl,rfl,rfl⟩:=H
  go_enter Tryd.func25,Tryd.ntmps25
  go_wp2_with (first|((with_reducible refine gate_dst (N:=2) rfl ?_);(try (refine gate_guard (by rfl) ?_;dsimp only));refine box_event ?hg (N:=2) ?hd (cs:=#[.string (⟨#[]⟩:ByteArray), .slice none 0 0, .bool false, .string (⟨#[]⟩:ByteArray)]) (t:=25) ?hr ?_;(case hd=>rfl);(case hg=>rfl);(case hr=>(go_simp <;> rfl));intro gb302 hg w4 hbox hb;have n0_:=Am (bT (by repeat (first|(with_reducible first|exact HB.out|apply bA|apply bN|apply bD)|exact HB.out)) hb);have n1_:=Am (hbox);have n2_:=Am ((by rw [hg];exact (bU (by repeat (first|(with_reducible first|exact HB.out|apply bA|apply bN|apply bD)|exact HB.out))):w.heap.size ≤ gb302));have n3_:=n2_;clear HB;have HB:=n0_;have BK302:=n1_;have GW302:=n2_;have GE302:=n3_;clear n0_ n1_ n2_ n3_ hb hbox hg)|((with_reducible refine gate_callee (f:=32) rfl ?_);refine goesL_ (some 9) rfl rfl Tryd.func32 (by kernel_rfl) rfl #[.string a0, .int .u8 35] rfl (aE2 rfl rfl) ?_;(with_reducible refine (spec_l1Cut.calls k a0 35 t303 t304 t305 _ A2.out).mono ?_);rintro e w' ⟨rfl,⟨nd,rfl⟩⟩;refine ⟨_,rfl,?_⟩;(try (rw [drewN_self w4];generalize hq_:World.drewN w4 _ = w4;have n0_:Aside0 (w4.heap[gb302]? = some (.cells #[.string (⟨#[]⟩:ByteArray), .slice none 0 0, .bool false, .string (⟨#[]⟩:ByteArray)] 25 (0,0))):=⟨by rw [← hq_];exact (bB BK302.out)⟩;have n1_:Aside0 (Below w.heap.size w w4):=⟨by rw [← hq_];exact (by repeat (first|(with_reducible first|exact HB.out|apply bA|apply bN|apply bD|refine bS ?_ GE302.out)|exact HB.out))⟩;clear BK302 HB hq_;have BK302:=n0_;have HB:=n1_;clear n0_ n1_));have hcz5_0:w4.cell? ⟨gb302,0,none⟩ = some (.string (⟨#[]⟩:ByteArray)):=bM BK302.out 0 rfl;have hcz5_1:w4.cell? ⟨gb302,1,none⟩ = some (.slice none 0 0):=bM BK302.out 1 rfl;have hcz5_2:w4.cell? ⟨gb302,2,none⟩ = some (.bool false):=bM BK302.out 2 rfl;have hcz5_3:w4.cell? ⟨gb302,3,none⟩ = some (.string (⟨#[]⟩:ByteArray)):=bM BK302.out 3 rfl;have hfz5_0:=bZ BK302.out 0;have hfz5_1:=bZ BK302.out 1;have hfz5_2:=bZ BK302.out 2;have hfz5_3:=bZ BK302.out 3))
  refine bodyPost_ret (results_ct rfl _ _ gb302 25 #[.string (⟨#[]⟩:ByteArray), .slice none 0 0, .bool false, .string (⟨#[]⟩:ByteArray)] (0,0) _ rfl (by refine bB ?_;apply bP;refine bB ?_;exact BK302.out) Tryd.underlying25 rfl (by kernel_rfl)) rfl ?_
  exact ⟨_,by first|rfl|(simp <;> rfl)|(simp [*] <;> rfl),by first|exact Kd.R_nil _ _ _ _ _|exact Kd.N_nil _ _ _ _ _|exact Kd.V_nil _ _ _ _ _|exact Kd.Q_nil _ _ _ _ _|exact Kd.S_nil _ _ _ _ _,by repeat (first|(with_reducible first|exact HB.out|apply bA|apply bN|apply bD|refine bS ?_ GE302.out)|exact HB.out)⟩
 ·rw [if_neg c3] at H
  have c3b0:decide (60 < (a0.size:Int)) = false:=decide_eq_false c3
  have c3b1:decide (60 < a0.size) = false:=decide_eq_false (by omega)
  clear c3
  by_cases c6:(t303.size:Int) < 2
  ·rw [if_pos c6] at H
   have c6b0:decide ((t303.size:Int) < 2) = true:=decide_eq_true c6
   have c6b1:decide (t303.size < 2) = true:=decide_eq_true (by omega)
   clear c6
   simp only [Option.some.injEq,Prod.mk.injEq] at H
   obtain ⟨rfl,rfl,rfl,rfl,rfl⟩:=H
   go_enter Tryd.func25,Tryd.ntmps25
   go_wp2_with (first|((with_reducible refine gate_dst (N:=2) rfl ?_);(try (refine gate_guard (by rfl) ?_;dsimp only));refine box_event ?hg (N:=2) ?hd (cs:=#[.string (⟨#[]⟩:ByteArray), .slice none 0 0, .bool false, .string (⟨#[]⟩:ByteArray)]) (t:=25) ?hr ?_;(case hd=>rfl);(case hg=>rfl);(case hr=>(go_simp <;> rfl));intro gb302 hg w7 hbox hb;have n0_:=Am (bT (by repeat (first|(with_reducible first|exact HB.out|apply bA|apply bN|apply bD)|exact HB.out)) hb);have n1_:=Am (hbox);have n2_:=Am ((by rw [hg];exact (bU (by repeat (first|(with_reducible first|exact HB.out|apply bA|apply bN|apply bD)|exact HB.out))):w.heap.size ≤ gb302));have n3_:=n2_;clear HB;have HB:=n0_;have BK302:=n1_;have GW302:=n2_;have GE302:=n3_;clear n0_ n1_ n2_ n3_ hb hbox hg)|((with_reducible refine gate_callee (f:=32) rfl ?_);refine goesL_ (some 9) rfl rfl Tryd.func32 (by kernel_rfl) rfl #[.string a0, .int .u8 35] rfl (aE2 rfl rfl) ?_;(with_reducible refine (spec_l1Cut.calls k a0 35 t303 t304 t305 _ A2.out).mono ?_);rintro e w' ⟨rfl,⟨nd,rfl⟩⟩;refine ⟨_,rfl,?_⟩;(try (rw [drewN_self w7];generalize hq_:World.drewN w7 _ = w7;have n0_:Aside0 (w7.heap[gb302]? = some (.cells #[.string (⟨#[]⟩:ByteArray), .slice none 0 0, .bool false, .string (⟨#[]⟩:ByteArray)] 25 (0,0))):=⟨by rw [← hq_];exact (bB BK302.out)⟩;have n1_:Aside0 (Below w.heap.size w w7):=⟨by rw [← hq_];exact (by repeat (first|(with_reducible first|exact HB.out|apply bA|apply bN|apply bD|refine bS ?_ GE302.out)|exact HB.out))⟩;clear BK302 HB hq_;have BK302:=n0_;have HB:=n1_;clear n0_ n1_));have hcz8_0:w7.cell? ⟨gb302,0,none⟩ = some (.string (⟨#[]⟩:ByteArray)):=bM BK302.out 0 rfl;have hcz8_1:w7.cell? ⟨gb302,1,none⟩ = some (.slice none 0 0):=bM BK302.out 1 rfl;have hcz8_2:w7.cell? ⟨gb302,2,none⟩ = some (.bool false):=bM BK302.out 2 rfl;have hcz8_3:w7.cell? ⟨gb302,3,none⟩ = some (.string (⟨#[]⟩:ByteArray)):=bM BK302.out 3 rfl;have hfz8_0:=bZ BK302.out 0;have hfz8_1:=bZ BK302.out 1;have hfz8_2:=bZ BK302.out 2;have hfz8_3:=bZ BK302.out 3))
   refine bodyPost_ret (results_ct rfl _ _ gb302 25 #[.string (⟨#[]⟩:ByteArray), .slice none 0 0, .bool false, .string (⟨#[]⟩:ByteArray)] (0,0) _ rfl (by refine bB ?_;apply bP;refine bB ?_;exact BK302.out) Tryd.underlying25 rfl (by kernel_rfl)) rfl ?_
   exact ⟨_,by first|rfl|(simp <;> rfl)|(simp [*] <;> rfl),by first|exact Kd.R_nil _ _ _ _ _|exact Kd.N_nil _ _ _ _ _|exact Kd.V_nil _ _ _ _ _|exact Kd.Q_nil _ _ _ _ _|exact Kd.S_nil _ _ _ _ _,by repeat (first|(with_reducible first|exact HB.out|apply bA|apply bN|apply bD|refine bS ?_ GE302.out)|exact HB.out)⟩
  ·rw [if_neg c6] at H
   have c6b0:decide ((t303.size:Int) < 2) = false:=decide_eq_false c6
   have c6b1:decide (t303.size < 2) = false:=decide_eq_false (by omega)
   clear c6
   by_cases c9:0 ≤ 2
   ·rw [if_pos c9] at H
    have c9b0:=eq_true c9
    have c9b1:=decide_eq_true c9
    clear c9
    by_cases c10:2 ≤ (t303.size:Int)
    ·rw [if_pos c10] at H
     have c10b0:=eq_true c10
     have c10b1:=decide_eq_true c10
     clear c10
     by_cases c11:(t303.extract 0 2).toList = ([47,47]:List UInt8)
     ·rw [if_pos c11] at H
      have c11b0:((t303.extract 0 2).toList == ([47,47]:List UInt8)) = true:=beq_iff_eq.mpr c11
      have c11b1:((t303.extract 0 2).toList != ([47,47]:List UInt8)) = false:=bne_eq_false_iff_eq.mpr c11
      clear c11
      have c12b0:=eq_true (oD (by assumption):2 ≤ (t303.size:Int))
      replace H:=bI H
      obtain ⟨⟨t306,t307,t310,t311,t312⟩,A130,H⟩:=H
      replace H:(some (t306,t307,t310,t311,t312)) = some (r1,r2,r3,r4,r5):=H
      have A13:=Am A130
      clear A130
      simp only [Option.some.injEq,Prod.mk.injEq] at H
      obtain ⟨rfl,rfl,rfl,rfl,rfl⟩:=H
      go_enter Tryd.func25,Tryd.ntmps25
      go_wp2_with (first|((with_reducible refine gate_dst (N:=2) rfl ?_);(try (refine gate_guard (by rfl) ?_;dsimp only));refine box_event ?hg (N:=2) ?hd (cs:=#[.string (⟨#[]⟩:ByteArray), .slice none 0 0, .bool false, .string (⟨#[]⟩:ByteArray)]) (t:=25) ?hr ?_;(case hd=>rfl);(case hg=>rfl);(case hr=>(go_simp <;> rfl));intro gb302 hg w14 hbox hb;have n0_:=Am (bT (by repeat (first|(with_reducible first|exact HB.out|apply bA|apply bN|apply bD)|exact HB.out)) hb);have n1_:=Am (hbox);have n2_:=Am ((by rw [hg];exact (bU (by repeat (first|(with_reducible first|exact HB.out|apply bA|apply bN|apply bD)|exact HB.out))):w.heap.size ≤ gb302));have n3_:=n2_;clear HB;have HB:=n0_;have BK302:=n1_;have GW302:=n2_;have GE302:=n3_;clear n0_ n1_ n2_ n3_ hb hbox hg)|((with_reducible refine gate_callee (f:=32) rfl ?_);refine goesL_ (some 9) rfl rfl Tryd.func32 (by kernel_rfl) rfl #[.string a0, .int .u8 35] rfl (aE2 rfl rfl) ?_;(with_reducible refine (spec_l1Cut.calls k a0 35 t303 t304 t305 _ A2.out).mono ?_);rintro e w' ⟨rfl,⟨nd,rfl⟩⟩;refine ⟨_,rfl,?_⟩;(try (rw [drewN_self w14];generalize hq_:World.drewN w14 _ = w14;have n0_:Aside0 (w14.heap[gb302]? = some (.cells #[.string (⟨#[]⟩:ByteArray), .slice none 0 0, .bool false, .string (⟨#[]⟩:ByteArray)] 25 (0,0))):=⟨by rw [← hq_];exact (bB BK302.out)⟩;have n1_:Aside0 (Below w.heap.size w w14):=⟨by rw [← hq_];exact (by repeat (first|(with_reducible first|exact HB.out|apply bA|apply bN|apply bD|refine bS ?_ GE302.out)|exact HB.out))⟩;clear BK302 HB hq_;have BK302:=n0_;have HB:=n1_;clear n0_ n1_)))|((with_reducible refine gate_callee (f:=33) rfl ?_);refine goesL_ (some 29) rfl rfl Tryd.func33 (by kernel_rfl) rfl #[.string (t303.extract 2 t303.size)] rfl (aE1 rfl) ?_;(with_reducible refine (spec_l1Whole.calls k (t303.extract 2 t303.size) t306 t307 t310 t311 t312 _ A13.out).mono ?_);rintro e w15 ⟨v308,rfl,ho0,hb⟩;refine ⟨_,rfl,?_⟩;have n0_:=Am (Kd.R_lower ho0 (bU (by repeat (first|(with_reducible first|exact HB.out|apply bA|apply bN|apply bD|refine bS ?_ GE302.out)|exact HB.out))));have n1_:=Am (blk_below (bB BK302.out) hb);have n2_:=Am (bT (by repeat (first|(with_reducible first|exact HB.out|apply bA|apply bN|apply bD|refine bS ?_ GE302.out)|exact HB.out)) hb);clear BK302 HB;have HO309:=n0_;have BK302:=n1_;have HB:=n2_;clear n0_ n1_ n2_;(try clear hb);(try clear ho0);have hcz16_0:w15.cell? ⟨gb302,0,none⟩ = some (.string (⟨#[]⟩:ByteArray)):=bM BK302.out 0 rfl;have hcz16_1:w15.cell? ⟨gb302,1,none⟩ = some (.slice none 0 0):=bM BK302.out 1 rfl;have hcz16_2:w15.cell? ⟨gb302,2,none⟩ = some (.bool false):=bM BK302.out 2 rfl;have hcz16_3:w15.cell? ⟨gb302,3,none⟩ = some (.string (⟨#[]⟩:ByteArray)):=bM BK302.out 3 rfl;have hfz16_0:=bZ BK302.out 0;have hfz16_1:=bZ BK302.out 1;have hfz16_2:=bZ BK302.out 2;have hfz16_3:=bZ BK302.out 3;obtain ⟨Ao17,co17,eo17⟩:=Kd.R_slice HO309.out;subst eo17))
      refine bodyPost_ret (results_ct rfl _ _ gb302 25 #[.string t306, .slice Ao17 t307.length co17, .bool t310, .string t311] (0,0) _ rfl (by refine bB ?_;apply bP;refine bB ?_;exact BK302.out) Tryd.underlying25 rfl (by kernel_rfl)) rfl ?_
      exact ⟨_,by first|rfl|(simp <;> rfl)|(simp [*] <;> rfl),by (with_reducible repeat (first|apply rA|apply rN|apply rD));exact Kd.R_mono (Kd.R_far (p:=⟨gb302,3,none⟩) (Kd.R_far (p:=⟨gb302,2,none⟩) (Kd.R_far (p:=⟨gb302,1,none⟩) (Kd.R_far (p:=⟨gb302,0,none⟩) (Kd.R_types HO309.out BK302.out (by decide)) (fun _ hk=>hk.2) (.string t306)) (fun _ hk=>hk.2) (.slice Ao17 t307.length co17)) (fun _ hk=>hk.2) (.bool t310)) (fun _ hk=>hk.2) (.string t311)) (fun _ hk=>trivial),by repeat (first|(with_reducible first|exact HB.out|apply bA|apply bN|apply bD|refine bS ?_ GE302.out)|exact HB.out)⟩
     ·rw [if_neg c11] at H
      have c11b0:((t303.extract 0 2).toList == ([47,47]:List UInt8)) = false:=beq_eq_false_iff_ne.mpr c11
      have c11b1:((t303.extract 0 2).toList != ([47,47]:List UInt8)) = true:=bne_iff_ne.mpr c11
      simp only [Option.some.injEq,Prod.mk.injEq] at H
      obtain ⟨rfl,rfl,rfl,rfl,rfl⟩:=H
      go_enter Tryd.func25,Tryd.ntmps25
      go_wp2_with (first|((with_reducible refine gate_dst (N:=2) rfl ?_);(try (refine gate_guard (by rfl) ?_;dsimp only));refine box_event ?hg (N:=2) ?hd (cs:=#[.string (⟨#[]⟩:ByteArray), .slice none 0 0, .bool false, .string (⟨#[]⟩:ByteArray)]) (t:=25) ?hr ?_;(case hd=>rfl);(case hg=>rfl);(case hr=>(go_simp <;> rfl));intro gb302 hg w18 hbox hb;have n0_:=Am (bT (by repeat (first|(with_reducible first|exact HB.out|apply bA|apply bN|apply bD)|exact HB.out)) hb);have n1_:=Am (hbox);have n2_:=Am ((by rw [hg];exact (bU (by repeat (first|(with_reducible first|exact HB.out|apply bA|apply bN|apply bD)|exact HB.out))):w.heap.size ≤ gb302));have n3_:=n2_;clear HB;have HB:=n0_;have BK302:=n1_;have GW302:=n2_;have GE302:=n3_;clear n0_ n1_ n2_ n3_ hb hbox hg)|((with_reducible refine gate_callee (f:=32) rfl ?_);refine goesL_ (some 9) rfl rfl Tryd.func32 (by kernel_rfl) rfl #[.string a0, .int .u8 35] rfl (aE2 rfl rfl) ?_;(with_reducible refine (spec_l1Cut.calls k a0 35 t303 t304 t305 _ A2.out).mono ?_);rintro e w' ⟨rfl,⟨nd,rfl⟩⟩;refine ⟨_,rfl,?_⟩;(try (rw [drewN_self w18];generalize hq_:World.drewN w18 _ = w18;have n0_:Aside0 (w18.heap[gb302]? = some (.cells #[.string (⟨#[]⟩:ByteArray), .slice none 0 0, .bool false, .string (⟨#[]⟩:ByteArray)] 25 (0,0))):=⟨by rw [← hq_];exact (bB BK302.out)⟩;have n1_:Aside0 (Below w.heap.size w w18):=⟨by rw [← hq_];exact (by repeat (first|(with_reducible first|exact HB.out|apply bA|apply bN|apply bD|refine bS ?_ GE302.out)|exact HB.out))⟩;clear BK302 HB hq_;have BK302:=n0_;have HB:=n1_;clear n0_ n1_));have hcz19_0:w18.cell? ⟨gb302,0,none⟩ = some (.string (⟨#[]⟩:ByteArray)):=bM BK302.out 0 rfl;have hcz19_1:w18.cell? ⟨gb302,1,none⟩ = some (.slice none 0 0):=bM BK302.out 1 rfl;have hcz19_2:w18.cell? ⟨gb302,2,none⟩ = some (.bool false):=bM BK302.out 2 rfl;have hcz19_3:w18.cell? ⟨gb302,3,none⟩ = some (.string (⟨#[]⟩:ByteArray)):=bM BK302.out 3 rfl;have hfz19_0:=bZ BK302.out 0;have hfz19_1:=bZ BK302.out 1;have hfz19_2:=bZ BK302.out 2;have hfz19_3:=bZ BK302.out 3))
      refine bodyPost_ret (results_ct rfl _ _ gb302 25 #[.string (⟨#[]⟩:ByteArray), .slice none 0 0, .bool false, .string (⟨#[]⟩:ByteArray)] (0,0) _ rfl (by refine bB ?_;apply bP;refine bB ?_;exact BK302.out) Tryd.underlying25 rfl (by kernel_rfl)) rfl ?_
      exact ⟨_,by first|rfl|(simp <;> rfl)|(simp [*] <;> rfl),by first|exact Kd.R_nil _ _ _ _ _|exact Kd.N_nil _ _ _ _ _|exact Kd.V_nil _ _ _ _ _|exact Kd.Q_nil _ _ _ _ _|exact Kd.S_nil _ _ _ _ _,by repeat (first|(with_reducible first|exact HB.out|apply bA|apply bN|apply bD|refine bS ?_ GE302.out)|exact HB.out)⟩
    ·rw [if_neg c10] at H
     exact absurd H (by simp)
   ·rw [if_neg c9] at H
    exact absurd H (by simp)

end Go.Proofs.YtbnnamjaljohiaaDoor.P
