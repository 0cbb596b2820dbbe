-- Written by a program of this session (patch_print.py over the kit's print; given texts in wip/given).
-- Cut down by a program of this session (wip/tools/prune.py) to what its claim can name.
import Derived.Test.YtbnnamjaljohiaaDoorSq
import Derived.Test.YtbnnamjaljohiaaDoorPx0
namespace Go.Proofs.YtbnnamjaljohiaaDoor.P
open Go.RowKit Go.Proofs.YtbnnamjaljohiaaDoorW.PrintWords Go.Proofs.YtbnnamjaljohiaaDoorW.PrintLast Go.Proofs.YtbnnamjaljohiaaDoorW.PrintMore
attribute [local go_sem] max2_int min2_int max_two min_two max_three min_three max_four min_four   -- for this text's walks alone
set_option linter.unusedVariables false
set_option linter.unusedSimpArgs false
set_option maxHeartbeats 8000000
set_option maxRecDepth 100000

/-! ### laws_szStringS: function 47 -/
def laws_szStringS.l0:Nat → List ByteArray → Int → Int → Option (Int)
 | 0,_,_,_=>none
 | k + 1,x0,x1,x5=>if x5 < (x0.length:Int) then (if 0 ≤ x5 then (if (wrap64 (x1 - ((rdOf ByteArray.empty x0 x5).size:Int))) < 0 then (some (-1)) else (laws_szStringS.l0 k x0 (wrap64 (x1 - ((rdOf ByteArray.empty x0 x5).size:Int))) (wrap64 (x5 + 1)))) else (none)) else (some x1)
def laws_szStringS.f (k:Nat) (l0:List ByteArray) (a1:Int):Option (Int):=if (wrap64 (a1 - (l0.length:Int))) < 0 then (some (-1)) else (laws_szStringS.l0 k l0 (wrap64 (a1 - (l0.length:Int))) 0)
theorem laws_szStringS.mono_l:∀ k,(∀ y0 y1 y2,LeO (laws_szStringS.l0 k y0 y1 y2) (laws_szStringS.l0 (k + 1) y0 y1 y2))
 | 0=>fun _ _ _ r h=>by simp [laws_szStringS.l0] at h
 | k + 1=>by
  have ih0:=laws_szStringS.mono_l k
  ·intro y0 y1 y2
   unfold laws_szStringS.l0
   repeat' first
   | (with_reducible apply ih0)
   | (with_reducible exact LeO.refl _)
   | (with_reducible exact LeO.none _)
   | (with_reducible refine LeO.ite ?_ ?_)
   | (with_reducible refine LeO.bind ?_ (fun _=>?_))
   | exact ih0 _ _ _
   | exact LeO.none _
   | refine LeO.ite ?_ ?_
   | refine LeO.bind ?_ (fun _=>?_)
theorem laws_szStringS.mono:∀ a0 a1 k,LeO (laws_szStringS.f k a0 a1) (laws_szStringS.f (k + 1) a0 a1):=by
 intro a0 a1 k
 have ih0:=laws_szStringS.mono_l k
 unfold laws_szStringS.f
 repeat' first
   | (with_reducible apply ih0)
   | (with_reducible exact LeO.refl _)
   | (with_reducible exact LeO.none _)
   | (with_reducible refine LeO.ite ?_ ?_)
   | (with_reducible refine LeO.bind ?_ (fun _=>?_))
   | exact ih0 _ _ _
   | exact LeO.none _
   | refine LeO.ite ?_ ?_
   | refine LeO.bind ?_ (fun _=>?_)
theorem laws_szStringS.calls (k:Nat) (A0:Option Addr) (c0:Nat) (l0:List ByteArray) (a1:Int) (r:Int) (w:World) (hr0:Kd.C Kd.string w A0 l0.length l0) (hc0:l0.length ≤ c0) (h:laws_szStringS.f k l0 a1 = some r) :
  Calls Tryd.prog 47 #[.slice A0 l0.length c0, .int .i64 a1] w fun e w'=>e = .returned (.int .i64 r) ∧ Drawn0 w w':=by
 have HR0:=Am hr0
 have HC0:=Am hc0
 clear hr0 hc0
 have H:(if (wrap64 (a1 - (l0.length:Int))) < 0 then (some (-1)) else (laws_szStringS.l0 k l0 (wrap64 (a1 - (l0.length:Int))) 0)) = some r:=h
 clear h
 by_cases c3:(wrap64 (a1 - (l0.length:Int))) < 0
 ·rw [if_pos c3] at H
  have c3b0:decide ((wrap64 (a1 - (l0.length:Int))) < 0) = true:=decide_eq_true c3
  clear c3
  obtain rfl:=Option.some.inj H
  go_enter Tryd.func47,Tryd.ntmps47
  go_wp2
  go_ret
  exact ⟨by first|rfl|(simp;done)|(simp only [i64_w,i32_w] <;> rfl)|(simp [*];done)|(simp [emp_bne,emp_beq];done),by repeat (first|exact Drawn0.refl _|apply Drawn0.step)⟩
 ·rw [if_neg c3] at H
  have c3b0:decide ((wrap64 (a1 - (l0.length:Int))) < 0) = false:=decide_eq_false c3
  clear c3
  have H':=Am H
  clear H
  go_enter Tryd.func47,Tryd.ntmps47
  go_wp2
  go_loopg [1,5] k (fun kq v1 v5 w'=>∃ (x1_1:Int) (x5_1:Int),v1 = .int .i64 x1_1 ∧ v5 = .int .i64 x5_1 ∧ Aside0 (laws_szStringS.l0 kq l0 x1_1 x5_1 = some r) ∧ Aside0 (kq ≤ k) ∧ Drawn0 w w')
  case atStart=>exact ⟨(wrap64 (a1 - (l0.length:Int))),(0),(by first|rfl|(simp;done)|(simp only [i64_w,i32_w] <;> rfl)|(simp [*];done)|(simp [emp_bne,emp_beq];done)),(by first|rfl|(simp;done)|(simp only [i64_w,i32_w] <;> rfl)|(simp [*];done)|(simp [emp_bne,emp_beq];done)),H',⟨Nat.le_refl _⟩,by repeat (first|exact Drawn0.refl _|apply Drawn0.step)⟩
  case round =>
   clear H'
   try clear p2
   try clear c3
   try clear c3b0
   obtain ⟨x1_1,x5_1,rfl,rfl,HA,HK1,⟨m1,rfl⟩⟩:=hrel
   cases gk with
   | zero=>exact absurd HA.out (by simp [laws_szStringS.l0])
   | succ k1 =>
    have H:=HA.out
    clear HA
    simp only [laws_szStringS.l0] at H
    by_cases c4:x5_1 < (l0.length:Int)
    ·rw [if_pos c4] at H
     have c4b0:decide (x5_1 < (l0.length:Int)) = true:=decide_eq_true c4
     clear c4
     by_cases c5:0 ≤ x5_1
     ·rw [if_pos c5] at H
      have c5b0:decide (0 ≤ x5_1) = true:=decide_eq_true c5
      clear c5
      by_cases c6:(wrap64 (x1_1 - ((rdOf ByteArray.empty l0 x5_1).size:Int))) < 0
      ·rw [if_pos c6] at H
       have c6b0:decide ((wrap64 (x1_1 - ((rdOf ByteArray.empty l0 x5_1).size:Int))) < 0) = true:=decide_eq_true c6
       clear c6
       obtain rfl:=Option.some.inj H
       have p575:0 ≤ (x5_1:Int):=oD (by assumption)
       have q575:x5_1 < (l0.length:Int):=oD (by assumption)
       obtain ⟨ad575,e575,hx575_0⟩:=Kd.at_string HR0.out x5_1 p575 q575
       cases e575
       replace p575:=eq_true p575
       replace q575:=eq_true q575
       go_wp2
       go_ret
       exact ⟨by first|rfl|(simp;done)|(simp only [i64_w,i32_w] <;> rfl)|(simp [*];done)|(simp [emp_bne,emp_beq];done),by repeat (first|exact Drawn0.refl _|apply Drawn0.step)⟩
      ·rw [if_neg c6] at H
       have c6b0:decide ((wrap64 (x1_1 - ((rdOf ByteArray.empty l0 x5_1).size:Int))) < 0) = false:=decide_eq_false c6
       clear c6
       have H':=Am H
       clear H
       have p575:0 ≤ (x5_1:Int):=oD (by assumption)
       have q575:x5_1 < (l0.length:Int):=oD (by assumption)
       obtain ⟨ad575,e575,hx575_0⟩:=Kd.at_string HR0.out x5_1 p575 q575
       cases e575
       replace p575:=eq_true p575
       replace q575:=eq_true q575
       go_wp2
       go_roundg k1
       case measure=>have:=HK1.out;omega
       case rel=>exact ⟨(wrap64 (x1_1 - ((rdOf ByteArray.empty l0 x5_1).size:Int))),(wrap64 (x5_1 + 1)),(by first|rfl|(simp;done)|(simp only [i64_w,i32_w] <;> rfl)|(simp [*];done)|(simp [emp_bne,emp_beq];done)),(by first|rfl|(simp;done)|(simp only [i64_w,i32_w] <;> rfl)|(simp [*];done)|(simp [emp_bne,emp_beq];done)),H',⟨by have:=HK1.out;omega⟩,by repeat (first|exact Drawn0.refl _|apply Drawn0.step)⟩
     ·rw [if_neg c5] at H
      exact absurd H (by simp)
    ·rw [if_neg c4] at H
     have c4b0:decide (x5_1 < (l0.length:Int)) = false:=decide_eq_false c4
     clear c4
     obtain rfl:=Option.some.inj H
     go_wp2
     go_ret
     exact ⟨by first|rfl|(simp;done)|(simp only [i64_w,i32_w] <;> rfl)|(simp [*];done)|(simp [emp_bne,emp_beq];done),by repeat (first|exact Drawn0.refl _|apply Drawn0.step)⟩

/-! ### laws_szAddr: function 19 -/
def laws_szAddr.f (k:Nat) (a0_0:ByteArray) (l0_1:List ByteArray) (a0_2:Bool) (a0_3:ByteArray) (a1:Int):Option (Int):=if (wrap64 (a1 - (a0_0.size:Int))) < 0 then (some (-1)) else ((laws_szStringS.f k l0_1 (wrap64 (a1 - (a0_0.size:Int)))).bind fun t577=>(if t577 < 0 then (some (-1)) else (if (wrap64 (t577 - (a0_3.size:Int))) < 0 then (some (-1)) else (some (wrap64 (t577 - (a0_3.size:Int)))))))
theorem laws_szAddr.mono:∀ a0 a1 a2 a3 a4 k,LeO (laws_szAddr.f k a0 a1 a2 a3 a4) (laws_szAddr.f (k + 1) a0 a1 a2 a3 a4):=by
 intro a0 a1 a2 a3 a4 k
 unfold laws_szAddr.f
 repeat' first
   | (with_reducible apply laws_szStringS.mono)
   | (with_reducible exact LeO.refl _)
   | (with_reducible exact LeO.none _)
   | (with_reducible refine LeO.ite ?_ ?_)
   | (with_reducible refine LeO.bind ?_ (fun _=>?_))
   | exact laws_szStringS.mono _ _ _
   | exact LeO.none _
   | refine LeO.ite ?_ ?_
   | refine LeO.bind ?_ (fun _=>?_)
theorem laws_szAddr.calls (k:Nat) (a0_0:ByteArray) (A0_1:Option Addr) (c0_1:Nat) (l0_1:List ByteArray) (a0_2:Bool) (a0_3:ByteArray) (a1:Int) (r:Int) (w:World) (hr0_1:Kd.C Kd.string w A0_1 l0_1.length l0_1) (hc0_1:l0_1.length ≤ c0_1) (h:laws_szAddr.f k a0_0 l0_1 a0_2 a0_3 a1 = some r) :
  Calls Tryd.prog 19 #[.agg #[.string a0_0, .slice A0_1 l0_1.length c0_1, .bool a0_2, .string a0_3], .int .i64 a1] w fun e w'=>e = .returned (.int .i64 r) ∧ Below w.heap.size w w':=by
 have hu36:=Tryd.underlying36
 have HR0_1:=Am hr0_1
 have HC0_1:=Am hc0_1
 clear hr0_1 hc0_1
 have HB:=Am (Below.refl w.heap.size w)
 have H:(if (wrap64 (a1 - (a0_0.size:Int))) < 0 then (some (-1)) else ((laws_szStringS.f k l0_1 (wrap64 (a1 - (a0_0.size:Int)))).bind fun t577=>(if t577 < 0 then (some (-1)) else (if (wrap64 (t577 - (a0_3.size:Int))) < 0 then (some (-1)) else (some (wrap64 (t577 - (a0_3.size:Int)))))))) = some r:=h
 clear h
 by_cases c3:(wrap64 (a1 - (a0_0.size:Int))) < 0
 ·rw [if_pos c3] at H
  have c3b0:decide ((wrap64 (a1 - (a0_0.size:Int))) < 0) = true:=decide_eq_true c3
  clear c3
  obtain rfl:=Option.some.inj H
  go_enter Tryd.func19,Tryd.ntmps19
  go_wp2_with (first|((with_reducible refine gate_dst (N:=2) rfl ?_);refine box_event ?hg (N:=2) ?hd (cs:=#[.string a0_0, .slice A0_1 l0_1.length c0_1, .bool a0_2, .string a0_3]) (t:=36) ?hr ?_;(case hd=>rfl);(case hg=>rfl);(case hr=>(go_simp <;> rfl));intro gb576 hg w4 hbox hb;have n0_:=Am (bT (by repeat (first|(with_reducible first|exact HB.out|apply bA|apply bN|apply bD)|exact HB.out)) hb);have n1_:=Am (hbox);have n2_:=Am ((by rw [hg];exact (bU (by repeat (first|(with_reducible first|exact HB.out|apply bA|apply bN|apply bD)|exact HB.out))):w.heap.size ≤ gb576));have n3_:=n2_;clear HB;have HB:=n0_;have BK576:=n1_;have GW576:=n2_;have GE576:=n3_;clear n0_ n1_ n2_ n3_ hb hbox hg;have hcz5_0:w4.cell? ⟨gb576,0,none⟩ = some (.string a0_0):=bM BK576.out 0 rfl;have hcz5_1:w4.cell? ⟨gb576,1,none⟩ = some (.slice A0_1 l0_1.length c0_1):=bM BK576.out 1 rfl;have hcz5_2:w4.cell? ⟨gb576,2,none⟩ = some (.bool a0_2):=bM BK576.out 2 rfl;have hcz5_3:w4.cell? ⟨gb576,3,none⟩ = some (.string a0_3):=bM BK576.out 3 rfl;have hfz5_0:=bZ BK576.out 0;have hfz5_1:=bZ BK576.out 1;have hfz5_2:=bZ BK576.out 2;have hfz5_3:=bZ BK576.out 3))
  go_ret
  exact ⟨by first|rfl|(simp <;> rfl)|(simp [*] <;> rfl),by repeat (first|(with_reducible first|exact HB.out|apply bA|apply bN|apply bD|refine bS ?_ GE576.out)|exact HB.out)⟩
 ·rw [if_neg c3] at H
  have c3b0:decide ((wrap64 (a1 - (a0_0.size:Int))) < 0) = false:=decide_eq_false c3
  clear c3
  replace H:=bI H
  obtain ⟨t577,A60,H⟩:=H
  replace H:(if t577 < 0 then (some (-1)) else (if (wrap64 (t577 - (a0_3.size:Int))) < 0 then (some (-1)) else (some (wrap64 (t577 - (a0_3.size:Int)))))) = some r:=H
  have A6:=Am A60
  clear A60
  by_cases c7:t577 < 0
  ·rw [if_pos c7] at H
   have c7b0:decide (t577 < 0) = true:=decide_eq_true c7
   clear c7
   obtain rfl:=Option.some.inj H
   go_enter Tryd.func19,Tryd.ntmps19
   go_wp2_with (first|((with_reducible refine gate_dst (N:=2) rfl ?_);refine box_event ?hg (N:=2) ?hd (cs:=#[.string a0_0, .slice A0_1 l0_1.length c0_1, .bool a0_2, .string a0_3]) (t:=36) ?hr ?_;(case hd=>rfl);(case hg=>rfl);(case hr=>(go_simp <;> rfl));intro gb576 hg w8 hbox hb;have n0_:=Am (bT (by repeat (first|(with_reducible first|exact HB.out|apply bA|apply bN|apply bD)|exact HB.out)) hb);have n1_:=Am (hbox);have n2_:=Am ((by rw [hg];exact (bU (by repeat (first|(with_reducible first|exact HB.out|apply bA|apply bN|apply bD)|exact HB.out))):w.heap.size ≤ gb576));have n3_:=n2_;clear HB;have HB:=n0_;have BK576:=n1_;have GW576:=n2_;have GE576:=n3_;clear n0_ n1_ n2_ n3_ hb hbox hg;have hcz9_0:w8.cell? ⟨gb576,0,none⟩ = some (.string a0_0):=bM BK576.out 0 rfl;have hcz9_1:w8.cell? ⟨gb576,1,none⟩ = some (.slice A0_1 l0_1.length c0_1):=bM BK576.out 1 rfl;have hcz9_2:w8.cell? ⟨gb576,2,none⟩ = some (.bool a0_2):=bM BK576.out 2 rfl;have hcz9_3:w8.cell? ⟨gb576,3,none⟩ = some (.string a0_3):=bM BK576.out 3 rfl;have hfz9_0:=bZ BK576.out 0;have hfz9_1:=bZ BK576.out 1;have hfz9_2:=bZ BK576.out 2;have hfz9_3:=bZ BK576.out 3)|((with_reducible refine gate_callee (f:=47) rfl ?_);refine goesL_ (some 15) rfl rfl Tryd.func47 (by kernel_rfl) rfl #[.slice A0_1 l0_1.length c0_1, .int .i64 (wrap64 (a1 - (a0_0.size:Int)))] rfl (aE2 rfl rfl) ?_;(with_reducible refine (laws_szStringS.calls k _ _ l0_1 (wrap64 (a1 - (a0_0.size:Int))) t577 _ ?side1 ?side2 A6.out).mono ?_);(case side1=>repeat (first|exact (Kd.C_below HR0_1.out HB.out)|(with_reducible refine bC ?_)));(case side2=>exact HC0_1.out);rintro e w' ⟨rfl,⟨nd,rfl⟩⟩;refine ⟨_,rfl,?_⟩))
   go_ret
   exact ⟨by first|rfl|(simp <;> rfl)|(simp [*] <;> rfl),by repeat (first|(with_reducible first|exact HB.out|apply bA|apply bN|apply bD|refine bS ?_ GE576.out)|exact HB.out)⟩
  ·rw [if_neg c7] at H
   have c7b0:decide (t577 < 0) = false:=decide_eq_false c7
   clear c7
   by_cases c10:(wrap64 (t577 - (a0_3.size:Int))) < 0
   ·rw [if_pos c10] at H
    have c10b0:decide ((wrap64 (t577 - (a0_3.size:Int))) < 0) = true:=decide_eq_true c10
    clear c10
    obtain rfl:=Option.some.inj H
    go_enter Tryd.func19,Tryd.ntmps19
    go_wp2_with (first|((with_reducible refine gate_dst (N:=2) rfl ?_);refine box_event ?hg (N:=2) ?hd (cs:=#[.string a0_0, .slice A0_1 l0_1.length c0_1, .bool a0_2, .string a0_3]) (t:=36) ?hr ?_;(case hd=>rfl);(case hg=>rfl);(case hr=>(go_simp <;> rfl));intro gb576 hg w11 hbox hb;have n0_:=Am (bT (by repeat (first|(with_reducible first|exact HB.out|apply bA|apply bN|apply bD)|exact HB.out)) hb);have n1_:=Am (hbox);have n2_:=Am ((by rw [hg];exact (bU (by repeat (first|(with_reducible first|exact HB.out|apply bA|apply bN|apply bD)|exact HB.out))):w.heap.size ≤ gb576));have n3_:=n2_;clear HB;have HB:=n0_;have BK576:=n1_;have GW576:=n2_;have GE576:=n3_;clear n0_ n1_ n2_ n3_ hb hbox hg;have hcz12_0:w11.cell? ⟨gb576,0,none⟩ = some (.string a0_0):=bM BK576.out 0 rfl;have hcz12_1:w11.cell? ⟨gb576,1,none⟩ = some (.slice A0_1 l0_1.length c0_1):=bM BK576.out 1 rfl;have hcz12_2:w11.cell? ⟨gb576,2,none⟩ = some (.bool a0_2):=bM BK576.out 2 rfl;have hcz12_3:w11.cell? ⟨gb576,3,none⟩ = some (.string a0_3):=bM BK576.out 3 rfl;have hfz12_0:=bZ BK576.out 0;have hfz12_1:=bZ BK576.out 1;have hfz12_2:=bZ BK576.out 2;have hfz12_3:=bZ BK576.out 3)|((with_reducible refine gate_callee (f:=47) rfl ?_);refine goesL_ (some 15) rfl rfl Tryd.func47 (by kernel_rfl) rfl #[.slice A0_1 l0_1.length c0_1, .int .i64 (wrap64 (a1 - (a0_0.size:Int)))] rfl (aE2 rfl rfl) ?_;(with_reducible refine (laws_szStringS.calls k _ _ l0_1 (wrap64 (a1 - (a0_0.size:Int))) t577 _ ?side1 ?side2 A6.out).mono ?_);(case side1=>repeat (first|exact (Kd.C_below HR0_1.out HB.out)|(with_reducible refine bC ?_)));(case side2=>exact HC0_1.out);rintro e w' ⟨rfl,⟨nd,rfl⟩⟩;refine ⟨_,rfl,?_⟩))
    go_ret
    exact ⟨by first|rfl|(simp <;> rfl)|(simp [*] <;> rfl),by repeat (first|(with_reducible first|exact HB.out|apply bA|apply bN|apply bD|refine bS ?_ GE576.out)|exact HB.out)⟩
   ·rw [if_neg c10] at H
    have c10b0:decide ((wrap64 (t577 - (a0_3.size:Int))) < 0) = false:=decide_eq_false c10
    clear c10
    obtain rfl:=Option.some.inj H
    go_enter Tryd.func19,Tryd.ntmps19
    go_wp2_with (first|((with_reducible refine gate_dst (N:=2) rfl ?_);refine box_event ?hg (N:=2) ?hd (cs:=#[.string a0_0, .slice A0_1 l0_1.length c0_1, .bool a0_2, .string a0_3]) (t:=36) ?hr ?_;(case hd=>rfl);(case hg=>rfl);(case hr=>(go_simp <;> rfl));intro gb576 hg w13 hbox hb;have n0_:=Am (bT (by repeat (first|(with_reducible first|exact HB.out|apply bA|apply bN|apply bD)|exact HB.out)) hb);have n1_:=Am (hbox);have n2_:=Am ((by rw [hg];exact (bU (by repeat (first|(with_reducible first|exact HB.out|apply bA|apply bN|apply bD)|exact HB.out))):w.heap.size ≤ gb576));have n3_:=n2_;clear HB;have HB:=n0_;have BK576:=n1_;have GW576:=n2_;have GE576:=n3_;clear n0_ n1_ n2_ n3_ hb hbox hg;have hcz14_0:w13.cell? ⟨gb576,0,none⟩ = some (.string a0_0):=bM BK576.out 0 rfl;have hcz14_1:w13.cell? ⟨gb576,1,none⟩ = some (.slice A0_1 l0_1.length c0_1):=bM BK576.out 1 rfl;have hcz14_2:w13.cell? ⟨gb576,2,none⟩ = some (.bool a0_2):=bM BK576.out 2 rfl;have hcz14_3:w13.cell? ⟨gb576,3,none⟩ = some (.string a0_3):=bM BK576.out 3 rfl;have hfz14_0:=bZ BK576.out 0;have hfz14_1:=bZ BK576.out 1;have hfz14_2:=bZ BK576.out 2;have hfz14_3:=bZ BK576.out 3)|((with_reducible refine gate_callee (f:=47) rfl ?_);refine goesL_ (some 15) rfl rfl Tryd.func47 (by kernel_rfl) rfl #[.slice A0_1 l0_1.length c0_1, .int .i64 (wrap64 (a1 - (a0_0.size:Int)))] rfl (aE2 rfl rfl) ?_;(with_reducible refine (laws_szStringS.calls k _ _ l0_1 (wrap64 (a1 - (a0_0.size:Int))) t577 _ ?side1 ?side2 A6.out).mono ?_);(case side1=>repeat (first|exact (Kd.C_below HR0_1.out HB.out)|(with_reducible refine bC ?_)));(case side2=>exact HC0_1.out);rintro e w' ⟨rfl,⟨nd,rfl⟩⟩;refine ⟨_,rfl,?_⟩))
    go_ret
    exact ⟨by first|rfl|(simp <;> rfl)|(simp [*] <;> rfl),by repeat (first|(with_reducible first|exact HB.out|apply bA|apply bN|apply bD|refine bS ?_ GE576.out)|exact HB.out)⟩

/-! ### laws_toStringS: function 48 -/
def laws_toStringS.l0:Nat → List ByteArray → List ByteArray → Int → Option (List ByteArray)
 | 0,_,_,_=>none
 | k + 1,x0,x3,x4=>if x4 < (x0.length:Int) then (if 0 ≤ x4 then (if x4 < (x3.length:Int) then (laws_toStringS.l0 k x0 (x3.set (x4:Int).toNat (rdOf ByteArray.empty x0 x4)) (wrap64 (x4 + 1))) else (none)) else (none)) else (some x3)
def laws_toStringS.f (k:Nat) (l0:List ByteArray):Option (List ByteArray):=if 0 ≤ (l0.length:Int) then (if ((l0.length:Int):Int).toNat ≤ 17592186044416 then (laws_toStringS.l0 k l0 (List.replicate ((l0.length:Int):Int).toNat (⟨#[]⟩:ByteArray)) 0) else (none)) else (none)
theorem laws_toStringS.mono_l:∀ k,(∀ y0 y1 y2,LeO (laws_toStringS.l0 k y0 y1 y2) (laws_toStringS.l0 (k + 1) y0 y1 y2))
 | 0=>fun _ _ _ r h=>by simp [laws_toStringS.l0] at h
 | k + 1=>by
  have ih0:=laws_toStringS.mono_l k
  ·intro y0 y1 y2
   unfold laws_toStringS.l0
   repeat' first
   | (with_reducible apply ih0)
   | (with_reducible exact LeO.refl _)
   | (with_reducible exact LeO.none _)
   | (with_reducible refine LeO.ite ?_ ?_)
   | (with_reducible refine LeO.bind ?_ (fun _=>?_))
   | exact ih0 _ _ _
   | exact LeO.none _
   | refine LeO.ite ?_ ?_
   | refine LeO.bind ?_ (fun _=>?_)
theorem laws_toStringS.mono:∀ a0 k,LeO (laws_toStringS.f k a0) (laws_toStringS.f (k + 1) a0):=by
 intro a0 k
 have ih0:=laws_toStringS.mono_l k
 unfold laws_toStringS.f
 repeat' first
   | (with_reducible apply ih0)
   | (with_reducible exact LeO.refl _)
   | (with_reducible exact LeO.none _)
   | (with_reducible refine LeO.ite ?_ ?_)
   | (with_reducible refine LeO.bind ?_ (fun _=>?_))
   | exact ih0 _ _ _
   | exact LeO.none _
   | refine LeO.ite ?_ ?_
   | refine LeO.bind ?_ (fun _=>?_)
theorem laws_toStringS.calls (k:Nat) (A0:Option Addr) (c0:Nat) (l0:List ByteArray) (r:List ByteArray) (w:World) (hr0:Kd.C Kd.string w A0 l0.length l0) (hc0:l0.length ≤ c0) (h:laws_toStringS.f k l0 = some r) :
  Calls Tryd.prog 48 #[.slice A0 l0.length c0] w fun e w'=>∃ v0_:Value,e = .returned (v0_) ∧ Kd.R Kd.string 9 w' w.heap.size (fun _=>True) v0_ r ∧ Below w.heap.size w w':=by
 have HR0:=Am hr0
 have HC0:=Am hc0
 clear hr0 hc0
 have HB:=Am (Below.refl w.heap.size w)
 have H:(if 0 ≤ (l0.length:Int) then (if ((l0.length:Int):Int).toNat ≤ 17592186044416 then (laws_toStringS.l0 k l0 (List.replicate ((l0.length:Int):Int).toNat (⟨#[]⟩:ByteArray)) 0) else (none)) else (none)) = some r:=h
 clear h
 by_cases c2:0 ≤ (l0.length:Int)
 ·rw [if_pos c2] at H
  have c2b0:=eq_true c2
  have c2b1:=decide_eq_true c2
  clear c2
  by_cases c3:((l0.length:Int):Int).toNat ≤ 17592186044416
  ·rw [if_pos c3] at H
   have c3b0:=eq_true c3
   have c3b1:=decide_eq_true c3
   clear c3
   obtain ⟨y578,hy578⟩:∃ y_:List ByteArray,y_ = (List.replicate ((l0.length:Int):Int).toNat (⟨#[]⟩:ByteArray)):=⟨_,rfl⟩
   replace H:(laws_toStringS.l0 k l0 y578 0) = some r:=by first|(rw [hy578];with_reducible exact H)|(have H2_:=(Option.bind_some _ _).symm.trans H;rw [hy578];with_reducible exact H2_)|(have H2_:=(Option.bind_some _ _).symm.trans H;with_reducible exact H2_)|with_reducible exact H|(rw [hy578];exact H)|exact H
   have Ny578:=Am hy578
   clear hy578
   have H':=Am H
   clear H
   go_enter Tryd.func48,Tryd.ntmps48
   go_wp2_with (first|((with_reducible refine gate_dst (N:=7) rfl ?_);refine Kd.R_make Kd.string _ 9 rfl (N:=7) rfl 23 _ _ rfl (l0.length:Int) rfl rfl Tryd.underlying23 (.string ⟨#[]⟩) 16 info9 rfl (by decide) (by omega) (⟨#[]⟩:ByteArray) (ok:=fun _=>True) (okp:=fun _=>True) rfl (fun _ hk=>hk) trivial (oD (by assumption)) (Nat.le_trans (Nat.mul_le_mul_right _ (oD (by assumption):(l0.length:Int).toNat ≤ 17592186044416)) (by omega)) (Below.refl _ _) (Nat.le_refl _) ?_;intro v579 w4 ho5 hb hg_ hnew_;clear hg_ hnew_;(first|rw [← Ny578.out] at ho5|(simp only [Int.reduceToNat] at ho5;rw [← Ny578.out] at ho5));have n0_:=Am (Kd.R_lower ho5 (bU (by repeat (first|(with_reducible first|exact HB.out|apply bA|apply bN|apply bD)|exact HB.out))));have n1_:=Am (bT (by repeat (first|(with_reducible first|exact HB.out|apply bA|apply bN|apply bD)|exact HB.out)) hb);clear HB;have HO580:=n0_;have HB:=n1_;clear n0_ n1_ hb ho5))
   go_loopg [4] k (fun kq v4 w'=>∃ (x3_1:List ByteArray) (x4_1:Int),v4 = .int .i64 x4_1 ∧ Aside0 (laws_toStringS.l0 kq l0 x3_1 x4_1 = some r) ∧ Aside0 (kq ≤ k) ∧ Aside0 (Kd.R Kd.string 9 w' w.heap.size (fun _=>True) v579 x3_1) ∧ Aside0 (Below w.heap.size w w'))
   case atStart=>exact ⟨(y578),(0),(by first|rfl|(simp;done)|(simp only [i64_w,i32_w] <;> rfl)|(simp [*];done)|(simp [emp_bne,emp_beq];done)),H',⟨Nat.le_refl _⟩,⟨by (with_reducible repeat (first|apply rA|apply rN|apply rD));exact HO580.out⟩,⟨by repeat (first|(with_reducible first|exact HB.out|apply bA|apply bN|apply bD)|exact HB.out)⟩⟩
   case round =>
    clear H'
    try clear c2
    try clear c2b0
    try clear c2b1
    try clear p2
    try clear c3
    try clear c3b0
    try clear c3b1
    try clear c4
    obtain ⟨x3_1,x4_1,rfl,HA,HK1,HO_3,HB⟩:=hrel
    cases gk with
    | zero=>exact absurd HA.out (by simp [laws_toStringS.l0])
    | succ k1 =>
     have H:=HA.out
     clear HA
     simp only [laws_toStringS.l0] at H
     by_cases c6:x4_1 < (l0.length:Int)
     ·rw [if_pos c6] at H
      have c6b0:decide (x4_1 < (l0.length:Int)) = true:=decide_eq_true c6
      clear c6
      by_cases c7:0 ≤ x4_1
      ·rw [if_pos c7] at H
       have c7b0:decide (0 ≤ x4_1) = true:=decide_eq_true c7
       clear c7
       by_cases c8:x4_1 < (x3_1.length:Int)
       ·rw [if_pos c8] at H
        have c8b0:decide (x4_1 < (x3_1.length:Int)) = true:=decide_eq_true c8
        clear c8
        obtain ⟨y582,hy582⟩:∃ y_:List ByteArray,y_ = (x3_1.set (x4_1:Int).toNat (rdOf ByteArray.empty l0 x4_1)):=⟨_,rfl⟩
        replace H:(laws_toStringS.l0 k1 l0 y582 (wrap64 (x4_1 + 1))) = some r:=by first|(rw [hy582];with_reducible exact H)|(have H2_:=(Option.bind_some _ _).symm.trans H;rw [hy582];with_reducible exact H2_)|(have H2_:=(Option.bind_some _ _).symm.trans H;with_reducible exact H2_)|with_reducible exact H|(rw [hy582];exact H)|exact H
        have Ny582:=Am hy582
        clear hy582
        have H':=Am H
        clear H
        have p581:0 ≤ (x4_1:Int):=oD (by assumption)
        have q581:x4_1 < (l0.length:Int):=oD (by assumption)
        obtain ⟨ad581,e581,hx581_0⟩:=Kd.at_string HR0.out x4_1 p581 q581
        cases e581
        replace hx581_0:=(HB.out.cell (World.block_lt_of_cell? w _ hx581_0)).trans hx581_0
        replace p581:=eq_true p581
        replace q581:=eq_true q581
        have p9:0 ≤ (x4_1:Int):=oD (by assumption)
        have q9:(x4_1:Int) < ((x3_1.length:Int):Int):=oD (by assumption)
        obtain ⟨go9,co9,eo9,gb9,gl9,cl9,HG9⟩:=Kd.R_form HO_3.out (by omega)
        (first|cases eo9|(injection eo9 with ea_ en_ ec_;(first|subst ea_|(injection ea_ with ea_;subst ea_));subst ec_;clear en_))
        have GB9:=Am gb9
        have GG9:=Am HG9
        clear gb9 gl9 HG9
        obtain ⟨hx9_0,hf9_0⟩:=Kd.R_celln (⟨#[]⟩:ByteArray) HO_3.out (x4_1:Int) p9 q9
        replace p9:=eq_true p9
        replace q9:=eq_true q9
        have HP10:=Kd.R_putg HO_3.out (x4_1:Int) (rdOf ByteArray.empty l0 x4_1)
        go_wp2_with (first|((with_reducible refine gate_store (t:=9) (p:=20) rfl ?_);refine store_event (t:=9) (p:=20) (v:=?vo_w11) (w1:=(wr.setCell ⟨go9,(x4_1:Int).toNat,none⟩ (.string (rdOf ByteArray.empty l0 x4_1)))) ?hg ?ho ?hn ?hr ?_;(case ho=>rfl);(case hg=>rfl);(case hn=>rfl);(case hr=>(go_simp <;> rfl));intro w11 hw;have hg:wr.grownBy w11 (some go9):=(by rw [hw];exact HP10.2);have hp_:Kd.R Kd.string 9 w11 w.heap.size (fun _=>True) (.slice (some ⟨go9,0,none⟩) x3_1.length co9) y582:=(by rw [hw,Ny582.out];exact HP10.1);clear HP10;have n0_:=Am (hp_);have n1_:=Am ((by rw [hw];exact below_set (HB.out) GB9.out:Below w.heap.size w w11));clear HO_3 HB;have HO_3:=n0_;have HB:=n1_;clear n0_ n1_ hg hw hp_))
        go_roundg k1
        case measure=>have:=HK1.out;omega
        case rel=>exact ⟨(y582),(wrap64 (x4_1 + 1)),(by first|rfl|(simp;done)|(simp only [i64_w,i32_w] <;> rfl)|(simp [*];done)|(simp [emp_bne,emp_beq];done)),H',⟨by have:=HK1.out;omega⟩,⟨by (with_reducible repeat (first|apply rA|apply rN|apply rD));exact HO_3.out⟩,⟨by repeat (first|(with_reducible first|exact HB.out|apply bA|apply bN|apply bD)|exact HB.out)⟩⟩
       ·rw [if_neg c8] at H
        exact absurd H (by simp)
      ·rw [if_neg c7] at H
       exact absurd H (by simp)
     ·rw [if_neg c6] at H
      have c6b0:decide (x4_1 < (l0.length:Int)) = false:=decide_eq_false c6
      clear c6
      obtain rfl:=Option.some.inj H
      go_wp2
      go_ret
      exact ⟨_,by first|rfl|(simp <;> rfl)|(simp [*] <;> rfl),by (with_reducible repeat (first|apply rA|apply rN|apply rD));exact HO_3.out,by repeat (first|(with_reducible first|exact HB.out|apply bA|apply bN|apply bD)|exact HB.out)⟩
  ·rw [if_neg c3] at H
   exact absurd H (by simp)
 ·rw [if_neg c2] at H
  exact absurd H (by simp)

/-! ### laws_toAddr: function 20 -/
def laws_toAddr.f (k:Nat) (a0_0:ByteArray) (l0_1:List ByteArray) (a0_2:Bool) (a0_3:ByteArray):Option (ByteArray × List ByteArray × Bool × ByteArray):=(laws_toStringS.f k l0_1).bind fun t586=>(some (a0_0,t586,a0_2,a0_3))
theorem laws_toAddr.mono:∀ a0 a1 a2 a3 k,LeO (laws_toAddr.f k a0 a1 a2 a3) (laws_toAddr.f (k + 1) a0 a1 a2 a3):=by
 intro a0 a1 a2 a3 k
 unfold laws_toAddr.f
 repeat' first
   | (with_reducible apply laws_toStringS.mono)
   | (with_reducible exact LeO.refl _)
   | (with_reducible exact LeO.none _)
   | (with_reducible refine LeO.ite ?_ ?_)
   | (with_reducible refine LeO.bind ?_ (fun _=>?_))
   | exact laws_toStringS.mono _ _
   | exact LeO.none _
   | refine LeO.ite ?_ ?_
   | refine LeO.bind ?_ (fun _=>?_)
theorem laws_toAddr.calls (k:Nat) (a0_0:ByteArray) (A0_1:Option Addr) (c0_1:Nat) (l0_1:List ByteArray) (a0_2:Bool) (a0_3:ByteArray) (r1:ByteArray) (r2:List ByteArray) (r3:Bool) (r4:ByteArray) (w:World) (hr0_1:Kd.C Kd.string w A0_1 l0_1.length l0_1) (hc0_1:l0_1.length ≤ c0_1) (h:laws_toAddr.f k a0_0 l0_1 a0_2 a0_3 = some (r1,r2,r3,r4)) :
  Calls Tryd.prog 20 #[.agg #[.string a0_0, .slice A0_1 l0_1.length c0_1, .bool a0_2, .string a0_3]] w fun e w'=>∃ v1_:Value,e = .returned (.agg #[.string r1,v1_, .bool r3, .string r4]) ∧ Kd.R Kd.string 9 w' w.heap.size (fun _=>True) v1_ r2 ∧ Below w.heap.size w w':=by
 have hu36:=Tryd.underlying36
 have hu25:=Tryd.underlying25
 have HR0_1:=Am hr0_1
 have HC0_1:=Am hc0_1
 clear hr0_1 hc0_1
 have HB:=Am (Below.refl w.heap.size w)
 have H:((laws_toStringS.f k l0_1).bind fun t586=>(some (a0_0,t586,a0_2,a0_3))) = some (r1,r2,r3,r4):=h
 clear h
 replace H:=bI H
 obtain ⟨t586,A20,H⟩:=H
 replace H:(some (a0_0,t586,a0_2,a0_3)) = some (r1,r2,r3,r4):=H
 have A2:=Am A20
 clear A20
 simp only [Option.some.injEq,Prod.mk.injEq] at H
 obtain ⟨rfl,rfl,rfl,rfl⟩:=H
 go_enter Tryd.func20,Tryd.ntmps20
 go_wp2_with (first|((with_reducible refine gate_dst (N:=1) rfl ?_);refine box_event ?hg (N:=1) ?hd (cs:=#[.string a0_0, .slice A0_1 l0_1.length c0_1, .bool a0_2, .string a0_3]) (t:=36) ?hr ?_;(case hd=>rfl);(case hg=>rfl);(case hr=>(go_simp <;> rfl));intro gb583 hg w3 hbox hb;have n0_:=Am (bT (by repeat (first|(with_reducible first|exact HB.out|apply bA|apply bN|apply bD)|exact HB.out)) hb);have n1_:=Am (hbox);have n2_:=Am ((by rw [hg];exact (bU (by repeat (first|(with_reducible first|exact HB.out|apply bA|apply bN|apply bD)|exact HB.out))):w.heap.size ≤ gb583));have n3_:=n2_;clear HB;have HB:=n0_;have BK583:=n1_;have GW583:=n2_;have GE583:=n3_;clear n0_ n1_ n2_ n3_ hb hbox hg)|((with_reducible refine gate_dst (N:=2) rfl ?_);refine box_event ?hg (N:=2) ?hd (cs:=#[.string (⟨#[]⟩:ByteArray), .slice none 0 0, .bool false, .string (⟨#[]⟩:ByteArray)]) (t:=25) ?hr ?_;(case hd=>rfl);(case hg=>rfl);(case hr=>(go_simp <;> rfl));intro gb584 hg w4 hbox hb;have n0_:=Am (blk_below (bB BK583.out) hb);have n1_:=Am (bT (by repeat (first|(with_reducible first|exact HB.out|apply bA|apply bN|apply bD|refine bS ?_ GE583.out)|exact HB.out)) hb);have n2_:=Am (hbox);have n3_:=Am ((by rw [hg];exact (bU (by repeat (first|(with_reducible first|exact HB.out|apply bA|apply bN|apply bD|refine bS ?_ GE583.out)|exact HB.out))):w.heap.size ≤ gb584));have n4_:=n3_;have n5_:=Am ((by rw [hg];exact Nat.ne_of_lt (blk_lt (bB BK583.out)):gb583 ≠ gb584));have n6_:=Am ((by rw [hg];exact Nat.ne_of_gt (blk_lt (bB BK583.out)):gb584 ≠ gb583));clear BK583 HB;have BK583:=n0_;have HB:=n1_;have BK584:=n2_;have GW584:=n3_;have GE584:=n4_;have NB583_584:=n5_;have NB584_583:=n6_;clear n0_ n1_ n2_ n3_ n4_ n5_ n6_ hb hbox hg)|((with_reducible refine gate_dst (N:=3) rfl ?_);refine box_event ?hg (N:=3) ?hd (cs:=#[.string (⟨#[]⟩:ByteArray), .slice none 0 0, .bool false, .string (⟨#[]⟩:ByteArray)]) (t:=25) ?hr ?_;(case hd=>rfl);(case hg=>rfl);(case hr=>(go_simp <;> rfl));intro gb585 hg w5 hbox hb;have n0_:=Am (blk_below (bB BK583.out) hb);have n1_:=Am (blk_below (bB BK584.out) hb);have n2_:=Am (bT (by repeat (first|(with_reducible first|exact HB.out|apply bA|apply bN|apply bD|refine bS ?_ GE583.out|refine bS ?_ GE584.out)|exact HB.out)) hb);have n3_:=Am (hbox);have n4_:=Am ((by rw [hg];exact (bU (by repeat (first|(with_reducible first|exact HB.out|apply bA|apply bN|apply bD|refine bS ?_ GE583.out|refine bS ?_ GE584.out)|exact HB.out))):w.heap.size ≤ gb585));have n5_:=n4_;have n6_:=Am ((by rw [hg];exact Nat.ne_of_lt (blk_lt (bB BK583.out)):gb583 ≠ gb585));have n7_:=Am ((by rw [hg];exact Nat.ne_of_gt (blk_lt (bB BK583.out)):gb585 ≠ gb583));have n8_:=Am ((by rw [hg];exact Nat.ne_of_lt (blk_lt (bB BK584.out)):gb584 ≠ gb585));have n9_:=Am ((by rw [hg];exact Nat.ne_of_gt (blk_lt (bB BK584.out)):gb585 ≠ gb584));clear BK583 BK584 HB;have BK583:=n0_;have BK584:=n1_;have HB:=n2_;have BK585:=n3_;have GW585:=n4_;have GE585:=n5_;have NB583_585:=n6_;have NB585_583:=n7_;have NB584_585:=n8_;have NB585_584:=n9_;clear n0_ n1_ n2_ n3_ n4_ n5_ n6_ n7_ n8_ n9_ hb hbox hg;have hnb6:=NB583_584.out;have hnc6:=NB584_583.out;have hnb7:=NB583_585.out;have hnc7:=NB585_583.out;have hcz8_0:w5.cell? ⟨gb583,0,none⟩ = some (.string a0_0):=bM BK583.out 0 rfl;have hcz8_1:w5.cell? ⟨gb583,1,none⟩ = some (.slice A0_1 l0_1.length c0_1):=bM BK583.out 1 rfl;have hcz8_2:w5.cell? ⟨gb583,2,none⟩ = some (.bool a0_2):=bM BK583.out 2 rfl;have hcz8_3:w5.cell? ⟨gb583,3,none⟩ = some (.string a0_3):=bM BK583.out 3 rfl;have hfz8_0:=bZ BK583.out 0;have hfz8_1:=bZ BK583.out 1;have hfz8_2:=bZ BK583.out 2;have hfz8_3:=bZ BK583.out 3;have hnb9:=NB585_584.out;have hnc9:=NB584_585.out;have hcz10_0:w5.cell? ⟨gb585,0,none⟩ = some (.string (⟨#[]⟩:ByteArray)):=bM BK585.out 0 rfl;have hcz10_1:w5.cell? ⟨gb585,1,none⟩ = some (.slice none 0 0):=bM BK585.out 1 rfl;have hcz10_2:w5.cell? ⟨gb585,2,none⟩ = some (.bool false):=bM BK585.out 2 rfl;have hcz10_3:w5.cell? ⟨gb585,3,none⟩ = some (.string (⟨#[]⟩:ByteArray)):=bM BK585.out 3 rfl;have hfz10_0:=bZ BK585.out 0;have hfz10_1:=bZ BK585.out 1;have hfz10_2:=bZ BK585.out 2;have hfz10_3:=bZ BK585.out 3)|((with_reducible refine gate_callee (f:=48) rfl ?_);refine goesL_ (some 9) rfl rfl Tryd.func48 (by kernel_rfl) rfl #[.slice A0_1 l0_1.length c0_1] rfl (aE1 rfl) ?_;(with_reducible refine (laws_toStringS.calls k _ _ l0_1 t586 _ ?side1 ?side2 A2.out).mono ?_);(case side1=>exact Kd.C_below HR0_1.out (by repeat (first|(with_reducible first|exact HB.out|apply bA|apply bN|apply bD|refine bS ?_ GE583.out|refine bS ?_ GE584.out|refine bS ?_ GE585.out)|exact HB.out)));(case side2=>exact HC0_1.out);rintro e w11 ⟨v587,rfl,ho0,hb⟩;refine ⟨_,rfl,?_⟩;have n0_:=Am (Kd.R_lower ho0 (bU (by repeat (first|(with_reducible first|exact HB.out|apply bA|apply bN|apply bD|refine bS ?_ GE583.out|refine bS ?_ GE584.out|refine bS ?_ GE585.out)|exact HB.out))));have n1_:=Am (blk_below (g:=gb583) (o:=.cells #[.string a0_0, .slice A0_1 l0_1.length c0_1, .bool a0_2, .string a0_3] 36 (0,0)) (by refine bB ?_;refine blk_far ?_ NB583_585.out _;refine bB ?_;exact BK583.out) hb);have n2_:=Am (blk_below (g:=gb584) (o:=.cells #[.string (⟨#[]⟩:ByteArray), .slice none 0 0, .bool false, .string (⟨#[]⟩:ByteArray)] 25 (0,0)) (by refine bB ?_;refine blk_far ?_ NB584_585.out _;refine bB ?_;exact BK584.out) hb);have n3_:=Am (blk_below (g:=gb585) (o:=.cells #[.string a0_0, .slice none 0 0, .bool false, .string (⟨#[]⟩:ByteArray)] 25 (0,0)) (by refine bB ?_;refine blk_put (cs:=#[.string (⟨#[]⟩:ByteArray), .slice none 0 0, .bool false, .string (⟨#[]⟩:ByteArray)]) ?_ 0 _ rfl;refine bB ?_;exact BK585.out) hb);have n4_:=Am (bT (by repeat (first|(with_reducible first|exact HB.out|apply bA|apply bN|apply bD|refine bS ?_ GE583.out|refine bS ?_ GE584.out|refine bS ?_ GE585.out)|exact HB.out)) hb);clear BK583 BK584 BK585 HB;have HO588:=n0_;have BK583:=n1_;have BK584:=n2_;have BK585:=n3_;have HB:=n4_;clear n0_ n1_ n2_ n3_ n4_;(try clear hb);(try clear ho0);obtain ⟨Ao12,co12,eo12⟩:=Kd.R_slice HO588.out;subst eo12;have hcz13_0:w11.cell? ⟨gb585,0,none⟩ = some (.string a0_0):=bM BK585.out 0 rfl;have hcz13_1:w11.cell? ⟨gb585,1,none⟩ = some (.slice none 0 0):=bM BK585.out 1 rfl;have hcz13_2:w11.cell? ⟨gb585,2,none⟩ = some (.bool false):=bM BK585.out 2 rfl;have hcz13_3:w11.cell? ⟨gb585,3,none⟩ = some (.string (⟨#[]⟩:ByteArray)):=bM BK585.out 3 rfl;have hfz13_0:=bZ BK585.out 0;have hfz13_1:=bZ BK585.out 1;have hfz13_2:=bZ BK585.out 2;have hfz13_3:=bZ BK585.out 3;have hcz14_0:w11.cell? ⟨gb583,0,none⟩ = some (.string a0_0):=bM BK583.out 0 rfl;have hcz14_1:w11.cell? ⟨gb583,1,none⟩ = some (.slice A0_1 l0_1.length c0_1):=bM BK583.out 1 rfl;have hcz14_2:w11.cell? ⟨gb583,2,none⟩ = some (.bool a0_2):=bM BK583.out 2 rfl;have hcz14_3:w11.cell? ⟨gb583,3,none⟩ = some (.string a0_3):=bM BK583.out 3 rfl;have hfz14_0:=bZ BK583.out 0;have hfz14_1:=bZ BK583.out 1;have hfz14_2:=bZ BK583.out 2;have hfz14_3:=bZ BK583.out 3;have hcz15_0:w11.cell? ⟨gb584,0,none⟩ = some (.string (⟨#[]⟩:ByteArray)):=bM BK584.out 0 rfl;have hcz15_1:w11.cell? ⟨gb584,1,none⟩ = some (.slice none 0 0):=bM BK584.out 1 rfl;have hcz15_2:w11.cell? ⟨gb584,2,none⟩ = some (.bool false):=bM BK584.out 2 rfl;have hcz15_3:w11.cell? ⟨gb584,3,none⟩ = some (.string (⟨#[]⟩:ByteArray)):=bM BK584.out 3 rfl;have hfz15_0:=bZ BK584.out 0;have hfz15_1:=bZ BK584.out 1;have hfz15_2:=bZ BK584.out 2;have hfz15_3:=bZ BK584.out 3))
 refine bodyPost_ret (results_cell_row rfl _ _ gb584 25 #[.string a0_0, .slice Ao12 t586.length co12, .bool a0_2, .string a0_3] (0,0) _ rfl (by refine bB ?_;apply bP;refine bB ?_;refine blk_far ?_ NB584_585.out _;refine bB ?_;refine blk_far ?_ NB584_585.out _;refine bB ?_;refine blk_far ?_ NB584_585.out _;refine bB ?_;exact BK584.out) Tryd.underlying25 rfl (by kernel_rfl)) rfl ?_
 exact ⟨_,by first|rfl|(simp <;> rfl)|(simp [*] <;> rfl),by (with_reducible repeat (first|apply rA|apply rN|apply rD));exact Kd.R_mono (Kd.R_far (p:=⟨gb584,3,none⟩) (Kd.R_far (p:=⟨gb584,2,none⟩) (Kd.R_far (p:=⟨gb584,1,none⟩) (Kd.R_far (p:=⟨gb584,0,none⟩) (Kd.R_far (p:=⟨gb585,3,none⟩) (Kd.R_far (p:=⟨gb585,2,none⟩) (Kd.R_far (p:=⟨gb585,1,none⟩) (Kd.R_types (Kd.R_types HO588.out BK585.out (by decide)) BK584.out (by decide)) (fun _ hk=>hk.1.2) (.slice Ao12 t586.length co12)) (fun _ hk=>hk.1.2) (.bool a0_2)) (fun _ hk=>hk.1.2) (.string a0_3)) (fun _ hk=>hk.2) (.string a0_0)) (fun _ hk=>hk.2) (.slice Ao12 t586.length co12)) (fun _ hk=>hk.2) (.bool a0_2)) (fun _ hk=>hk.2) (.string a0_3)) (fun _ hk=>trivial),by repeat (first|(with_reducible first|exact HB.out|apply bA|apply bN|apply bD|refine bS ?_ GE583.out|refine bS ?_ GE584.out|refine bS ?_ GE585.out)|exact HB.out)⟩

/-! ### laws_eqStringS: function 49 -/
def laws_eqStringS.l0:Nat → List ByteArray → List ByteArray → Int → Option (Bool)
 | 0,_,_,_=>none
 | k + 1,x0,x1,x5=>if x5 < (x0.length:Int) then (if 0 ≤ x5 then (if x5 < (x1.length:Int) then (if (rdOf ByteArray.empty x0 x5).toList = (rdOf ByteArray.empty x1 x5).toList then (laws_eqStringS.l0 k x0 x1 (wrap64 (x5 + 1))) else (some false)) else (none)) else (none)) else (some true)
def laws_eqStringS.f (k:Nat) (l0:List ByteArray) (l1:List ByteArray):Option (Bool):=if (l0.length:Int) = (l1.length:Int) then (laws_eqStringS.l0 k l0 l1 0) else (some false)
theorem laws_eqStringS.mono_l:∀ k,(∀ y0 y1 y2,LeO (laws_eqStringS.l0 k y0 y1 y2) (laws_eqStringS.l0 (k + 1) y0 y1 y2))
 | 0=>fun _ _ _ r h=>by simp [laws_eqStringS.l0] at h
 | k + 1=>by
  have ih0:=laws_eqStringS.mono_l k
  ·intro y0 y1 y2
   unfold laws_eqStringS.l0
   repeat' first
   | (with_reducible apply ih0)
   | (with_reducible exact LeO.refl _)
   | (with_reducible exact LeO.none _)
   | (with_reducible refine LeO.ite ?_ ?_)
   | (with_reducible refine LeO.bind ?_ (fun _=>?_))
   | exact ih0 _ _ _
   | exact LeO.none _
   | refine LeO.ite ?_ ?_
   | refine LeO.bind ?_ (fun _=>?_)
theorem laws_eqStringS.mono:∀ a0 a1 k,LeO (laws_eqStringS.f k a0 a1) (laws_eqStringS.f (k + 1) a0 a1):=by
 intro a0 a1 k
 have ih0:=laws_eqStringS.mono_l k
 unfold laws_eqStringS.f
 repeat' first
   | (with_reducible apply ih0)
   | (with_reducible exact LeO.refl _)
   | (with_reducible exact LeO.none _)
   | (with_reducible refine LeO.ite ?_ ?_)
   | (with_reducible refine LeO.bind ?_ (fun _=>?_))
   | exact ih0 _ _ _
   | exact LeO.none _
   | refine LeO.ite ?_ ?_
   | refine LeO.bind ?_ (fun _=>?_)
theorem laws_eqStringS.calls (k:Nat) (A0:Option Addr) (c0:Nat) (l0:List ByteArray) (A1:Option Addr) (c1:Nat) (l1:List ByteArray) (r:Bool) (w:World) (hr0:Kd.C Kd.string w A0 l0.length l0) (hc0:l0.length ≤ c0) (hr1:Kd.C Kd.string w A1 l1.length l1) (hc1:l1.length ≤ c1) (h:laws_eqStringS.f k l0 l1 = some r) :
  Calls Tryd.prog 49 #[.slice A0 l0.length c0, .slice A1 l1.length c1] w fun e w'=>e = .returned (.bool r) ∧ Drawn0 w w':=by
 have HR0:=Am hr0
 have HC0:=Am hc0
 clear hr0 hc0
 have HR1:=Am hr1
 have HC1:=Am hc1
 clear hr1 hc1
 have H:(if (l0.length:Int) = (l1.length:Int) then (laws_eqStringS.l0 k l0 l1 0) else (some false)) = some r:=h
 clear h
 by_cases c3:(l0.length:Int) = (l1.length:Int)
 ·rw [if_pos c3] at H
  have c3b0:((l0.length:Int) == (l1.length:Int)) = true:=beq_iff_eq.mpr c3
  have c3b1:((l0.length:Int) != (l1.length:Int)) = false:=bne_eq_false_iff_eq.mpr c3
  have c3b2:(l0.length == l1.length) = true:=by first|simpa using c3|(simp at c3 ⊢;omega)
  clear c3
  have H':=Am H
  clear H
  go_enter Tryd.func49,Tryd.ntmps49
  go_wp2
  repeat (go_quiet (fail);try go_wp2)
  go_loopg [5] k (fun kq v5 w'=>∃ (x5_1:Int),v5 = .int .i64 x5_1 ∧ Aside0 (laws_eqStringS.l0 kq l0 l1 x5_1 = some r) ∧ Aside0 (kq ≤ k) ∧ Drawn0 w w')
  case atStart=>exact ⟨(0),(by first|rfl|(simp;done)|(simp only [i64_w,i32_w] <;> rfl)|(simp [*];done)|(simp [emp_bne,emp_beq];done)),H',⟨Nat.le_refl _⟩,by repeat (first|exact Drawn0.refl _|apply Drawn0.step)⟩
  case round =>
   clear H'
   try clear c1
   try clear p2
   try clear c3
   try clear c3b0
   try clear c3b1
   try clear c3b2
   obtain ⟨x5_1,rfl,HA,HK1,⟨m1,rfl⟩⟩:=hrel
   cases gk with
   | zero=>exact absurd HA.out (by simp [laws_eqStringS.l0])
   | succ k1 =>
    have H:=HA.out
    clear HA
    simp only [laws_eqStringS.l0] at H
    by_cases c4:x5_1 < (l0.length:Int)
    ·rw [if_pos c4] at H
     have c4b0:decide (x5_1 < (l0.length:Int)) = true:=decide_eq_true c4
     clear c4
     by_cases c5:0 ≤ x5_1
     ·rw [if_pos c5] at H
      have c5b0:decide (0 ≤ x5_1) = true:=decide_eq_true c5
      clear c5
      by_cases c6:x5_1 < (l1.length:Int)
      ·rw [if_pos c6] at H
       have c6b0:decide (x5_1 < (l1.length:Int)) = true:=decide_eq_true c6
       clear c6
       by_cases c7:(rdOf ByteArray.empty l0 x5_1).toList = (rdOf ByteArray.empty l1 x5_1).toList
       ·rw [if_pos c7] at H
        have c7b0:((rdOf ByteArray.empty l0 x5_1).toList == (rdOf ByteArray.empty l1 x5_1).toList) = true:=beq_iff_eq.mpr c7
        have c7b1:((rdOf ByteArray.empty l0 x5_1).toList != (rdOf ByteArray.empty l1 x5_1).toList) = false:=bne_eq_false_iff_eq.mpr c7
        clear c7
        have H':=Am H
        clear H
        have p589:0 ≤ (x5_1:Int):=oD (by assumption)
        have q589:x5_1 < (l0.length:Int):=oD (by assumption)
        obtain ⟨ad589,e589,hx589_0⟩:=Kd.at_string HR0.out x5_1 p589 q589
        cases e589
        replace p589:=eq_true p589
        replace q589:=eq_true q589
        have p590:0 ≤ (x5_1:Int):=oD (by assumption)
        have q590:x5_1 < (l1.length:Int):=oD (by assumption)
        obtain ⟨ad590,e590,hx590_0⟩:=Kd.at_string HR1.out x5_1 p590 q590
        cases e590
        replace p590:=eq_true p590
        replace q590:=eq_true q590
        go_wp2
        repeat (go_quiet (fail);try go_wp2)
        go_roundg k1
        case measure=>have:=HK1.out;omega
        case rel=>exact ⟨(wrap64 (x5_1 + 1)),(by first|rfl|(simp;done)|(simp only [i64_w,i32_w] <;> rfl)|(simp [*];done)|(simp [emp_bne,emp_beq];done)),H',⟨by have:=HK1.out;omega⟩,by repeat (first|exact Drawn0.refl _|apply Drawn0.step)⟩
       ·rw [if_neg c7] at H
        have c7b0:((rdOf ByteArray.empty l0 x5_1).toList == (rdOf ByteArray.empty l1 x5_1).toList) = false:=beq_eq_false_iff_ne.mpr c7
        have c7b1:((rdOf ByteArray.empty l0 x5_1).toList != (rdOf ByteArray.empty l1 x5_1).toList) = true:=bne_iff_ne.mpr c7
        obtain rfl:=Option.some.inj H
        have p589:0 ≤ (x5_1:Int):=oD (by assumption)
        have q589:x5_1 < (l0.length:Int):=oD (by assumption)
        obtain ⟨ad589,e589,hx589_0⟩:=Kd.at_string HR0.out x5_1 p589 q589
        cases e589
        replace p589:=eq_true p589
        replace q589:=eq_true q589
        have p590:0 ≤ (x5_1:Int):=oD (by assumption)
        have q590:x5_1 < (l1.length:Int):=oD (by assumption)
        obtain ⟨ad590,e590,hx590_0⟩:=Kd.at_string HR1.out x5_1 p590 q590
        cases e590
        replace p590:=eq_true p590
        replace q590:=eq_true q590
        go_wp2
        repeat (go_quiet (fail);try go_wp2)
        go_ret
        exact ⟨by first|rfl|(simp;done)|(simp only [i64_w,i32_w] <;> rfl)|(simp [*];done)|(simp [emp_bne,emp_beq];done),by repeat (first|exact Drawn0.refl _|apply Drawn0.step)⟩
      ·rw [if_neg c6] at H
       exact absurd H (by simp)
     ·rw [if_neg c5] at H
      exact absurd H (by simp)
    ·rw [if_neg c4] at H
     have c4b0:decide (x5_1 < (l0.length:Int)) = false:=decide_eq_false c4
     clear c4
     obtain rfl:=Option.some.inj H
     go_wp2
     repeat (go_quiet (fail);try go_wp2)
     go_ret
     exact ⟨by first|rfl|(simp;done)|(simp only [i64_w,i32_w] <;> rfl)|(simp [*];done)|(simp [emp_bne,emp_beq];done),by repeat (first|exact Drawn0.refl _|apply Drawn0.step)⟩
 ·rw [if_neg c3] at H
  have c3b0:((l0.length:Int) == (l1.length:Int)) = false:=beq_eq_false_iff_ne.mpr c3
  have c3b1:((l0.length:Int) != (l1.length:Int)) = true:=bne_iff_ne.mpr c3
  have c3b2:(l0.length == l1.length) = false:=by first|simpa using c3|(simp at c3 ⊢;omega)
  obtain rfl:=Option.some.inj H
  go_enter Tryd.func49,Tryd.ntmps49
  go_wp2
  repeat (go_quiet (fail);try go_wp2)
  go_ret
  exact ⟨by first|rfl|(simp;done)|(simp only [i64_w,i32_w] <;> rfl)|(simp [*];done)|(simp [emp_bne,emp_beq];done),by repeat (first|exact Drawn0.refl _|apply Drawn0.step)⟩

/-! ### laws_eqAddr: function 21 -/
def laws_eqAddr.f (k:Nat) (a0_0:ByteArray) (l0_1:List ByteArray) (a0_2:Bool) (a0_3:ByteArray) (a1_0:ByteArray) (l1_1:List ByteArray) (a1_2:Bool) (a1_3:ByteArray):Option (Bool):=if a0_0.toList = a1_0.toList then ((laws_eqStringS.f k l0_1 l1_1).bind fun t593=>(if t593 = true then (if (a0_2 != a1_2) = true then (some false) else (if a0_3.toList = a1_3.toList then (some true) else (some false))) else (some false))) else (some false)
theorem laws_eqAddr.mono:∀ a0 a1 a2 a3 a4 a5 a6 a7 k,LeO (laws_eqAddr.f k a0 a1 a2 a3 a4 a5 a6 a7) (laws_eqAddr.f (k + 1) a0 a1 a2 a3 a4 a5 a6 a7):=by
 intro a0 a1 a2 a3 a4 a5 a6 a7 k
 unfold laws_eqAddr.f
 repeat' first
   | (with_reducible apply laws_eqStringS.mono)
   | (with_reducible exact LeO.refl _)
   | (with_reducible exact LeO.none _)
   | (with_reducible refine LeO.ite ?_ ?_)
   | (with_reducible refine LeO.bind ?_ (fun _=>?_))
   | exact laws_eqStringS.mono _ _ _
   | exact LeO.none _
   | refine LeO.ite ?_ ?_
   | refine LeO.bind ?_ (fun _=>?_)
theorem laws_eqAddr.calls (k:Nat) (a0_0:ByteArray) (A0_1:Option Addr) (c0_1:Nat) (l0_1:List ByteArray) (a0_2:Bool) (a0_3:ByteArray) (a1_0:ByteArray) (A1_1:Option Addr) (c1_1:Nat) (l1_1:List ByteArray) (a1_2:Bool) (a1_3:ByteArray) (r:Bool) (w:World) (hr0_1:Kd.C Kd.string w A0_1 l0_1.length l0_1) (hc0_1:l0_1.length ≤ c0_1) (hr1_1:Kd.C Kd.string w A1_1 l1_1.length l1_1) (hc1_1:l1_1.length ≤ c1_1) (h:laws_eqAddr.f k a0_0 l0_1 a0_2 a0_3 a1_0 l1_1 a1_2 a1_3 = some r) :
  Calls Tryd.prog 21 #[.agg #[.string a0_0, .slice A0_1 l0_1.length c0_1, .bool a0_2, .string a0_3], .agg #[.string a1_0, .slice A1_1 l1_1.length c1_1, .bool a1_2, .string a1_3]] w fun e w'=>e = .returned (.bool r) ∧ Below w.heap.size w w':=by
 have hu25:=Tryd.underlying25
 have HR0_1:=Am hr0_1
 have HC0_1:=Am hc0_1
 clear hr0_1 hc0_1
 have HR1_1:=Am hr1_1
 have HC1_1:=Am hc1_1
 clear hr1_1 hc1_1
 have HB:=Am (Below.refl w.heap.size w)
 have H:(if a0_0.toList = a1_0.toList then ((laws_eqStringS.f k l0_1 l1_1).bind fun t593=>(if t593 = true then (if (a0_2 != a1_2) = true then (some false) else (if a0_3.toList = a1_3.toList then (some true) else (some false))) else (some false))) else (some false)) = some r:=h
 clear h
 by_cases c3:a0_0.toList = a1_0.toList
 ·rw [if_pos c3] at H
  have c3b0:(a0_0.toList == a1_0.toList) = true:=beq_iff_eq.mpr c3
  have c3b1:(a0_0.toList != a1_0.toList) = false:=bne_eq_false_iff_eq.mpr c3
  clear c3
  replace H:=bI H
  obtain ⟨t593,A40,H⟩:=H
  replace H:(if t593 = true then (if (a0_2 != a1_2) = true then (some false) else (if a0_3.toList = a1_3.toList then (some true) else (some false))) else (some false)) = some r:=H
  have A4:=Am A40
  clear A40
  by_cases c5:t593 = true
  ·subst c5
   have H1:(if (a0_2 != a1_2) = true then (some false) else (if a0_3.toList = a1_3.toList then (some true) else (some false))) = some r:=by rw [if_pos rfl] at H;exact H
   clear H
   have H:=H1
   clear H1
   by_cases c6:(a0_2 != a1_2) = true
   ·rw [if_pos c6] at H
    have c6b0:(a0_2 != a1_2) = true:=c6
    (try (have c6b1:decide (a0_2 = a1_2) = false:=by simpa using c6))
    (try (have c6b2:(a0_2 == a1_2) = false:=by simpa using c6))
    (try (have c6b3:¬ (a0_2 = a1_2):=by simpa using c6))
    clear c6
    obtain rfl:=Option.some.inj H
    go_enter Tryd.func21,Tryd.ntmps21
    go_wp2_with (first|((with_reducible refine gate_dst (N:=2) rfl ?_);refine box_event ?hg (N:=2) ?hd (cs:=#[.string a0_0, .slice A0_1 l0_1.length c0_1, .bool a0_2, .string a0_3]) (t:=25) ?hr ?_;(case hd=>rfl);(case hg=>rfl);(case hr=>(go_simp <;> rfl));intro gb591 hg w7 hbox hb;have n0_:=Am (bT (by repeat (first|(with_reducible first|exact HB.out|apply bA|apply bN|apply bD)|exact HB.out)) hb);have n1_:=Am (hbox);have n2_:=Am ((by rw [hg];exact (bU (by repeat (first|(with_reducible first|exact HB.out|apply bA|apply bN|apply bD)|exact HB.out))):w.heap.size ≤ gb591));have n3_:=n2_;clear HB;have HB:=n0_;have BK591:=n1_;have GW591:=n2_;have GE591:=n3_;clear n0_ n1_ n2_ n3_ hb hbox hg)|((with_reducible refine gate_dst (N:=3) rfl ?_);refine box_event ?hg (N:=3) ?hd (cs:=#[.string a1_0, .slice A1_1 l1_1.length c1_1, .bool a1_2, .string a1_3]) (t:=25) ?hr ?_;(case hd=>rfl);(case hg=>rfl);(case hr=>(go_simp <;> rfl));intro gb592 hg w8 hbox hb;have n0_:=Am (blk_below (bB BK591.out) hb);have n1_:=Am (bT (by repeat (first|(with_reducible first|exact HB.out|apply bA|apply bN|apply bD|refine bS ?_ GE591.out)|exact HB.out)) hb);have n2_:=Am (hbox);have n3_:=Am ((by rw [hg];exact (bU (by repeat (first|(with_reducible first|exact HB.out|apply bA|apply bN|apply bD|refine bS ?_ GE591.out)|exact HB.out))):w.heap.size ≤ gb592));have n4_:=n3_;have n5_:=Am ((by rw [hg];exact Nat.ne_of_lt (blk_lt (bB BK591.out)):gb591 ≠ gb592));have n6_:=Am ((by rw [hg];exact Nat.ne_of_gt (blk_lt (bB BK591.out)):gb592 ≠ gb591));clear BK591 HB;have BK591:=n0_;have HB:=n1_;have BK592:=n2_;have GW592:=n3_;have GE592:=n4_;have NB591_592:=n5_;have NB592_591:=n6_;clear n0_ n1_ n2_ n3_ n4_ n5_ n6_ hb hbox hg;have hnb9:=NB591_592.out;have hnc9:=NB592_591.out;have hcz10_0:w8.cell? ⟨gb591,0,none⟩ = some (.string a0_0):=bM BK591.out 0 rfl;have hcz10_1:w8.cell? ⟨gb591,1,none⟩ = some (.slice A0_1 l0_1.length c0_1):=bM BK591.out 1 rfl;have hcz10_2:w8.cell? ⟨gb591,2,none⟩ = some (.bool a0_2):=bM BK591.out 2 rfl;have hcz10_3:w8.cell? ⟨gb591,3,none⟩ = some (.string a0_3):=bM BK591.out 3 rfl;have hfz10_0:=bZ BK591.out 0;have hfz10_1:=bZ BK591.out 1;have hfz10_2:=bZ BK591.out 2;have hfz10_3:=bZ BK591.out 3;have hcz11_0:w8.cell? ⟨gb592,0,none⟩ = some (.string a1_0):=bM BK592.out 0 rfl;have hcz11_1:w8.cell? ⟨gb592,1,none⟩ = some (.slice A1_1 l1_1.length c1_1):=bM BK592.out 1 rfl;have hcz11_2:w8.cell? ⟨gb592,2,none⟩ = some (.bool a1_2):=bM BK592.out 2 rfl;have hcz11_3:w8.cell? ⟨gb592,3,none⟩ = some (.string a1_3):=bM BK592.out 3 rfl;have hfz11_0:=bZ BK592.out 0;have hfz11_1:=bZ BK592.out 1;have hfz11_2:=bZ BK592.out 2;have hfz11_3:=bZ BK592.out 3)|((with_reducible refine gate_callee (f:=49) rfl ?_);refine goesL_ (some 14) rfl rfl Tryd.func49 (by kernel_rfl) rfl #[.slice A0_1 l0_1.length c0_1, .slice A1_1 l1_1.length c1_1] rfl (aE2 rfl rfl) ?_;(with_reducible refine (laws_eqStringS.calls k _ _ l0_1 _ _ l1_1 true _ ?side1 ?side2 ?side3 ?side4 A4.out).mono ?_);(case side1=>repeat (first|exact (Kd.C_below HR0_1.out HB.out)|(with_reducible refine bC ?_)));(case side2=>exact HC0_1.out);(case side3=>repeat (first|exact (Kd.C_below HR1_1.out HB.out)|(with_reducible refine bC ?_)));(case side4=>exact HC1_1.out);rintro e w' ⟨rfl,⟨nd,rfl⟩⟩;refine ⟨_,rfl,?_⟩))
    go_ret
    exact ⟨by first|rfl|(simp <;> rfl)|(simp [*] <;> rfl),by repeat (first|(with_reducible first|exact HB.out|apply bA|apply bN|apply bD|refine bS ?_ GE591.out|refine bS ?_ GE592.out)|exact HB.out)⟩
   ·rw [if_neg c6] at H
    have c6b0:(a0_2 != a1_2) = false:=by simpa using c6
    (try (have c6b1:decide (a0_2 = a1_2) = true:=by simpa using c6))
    (try (have c6b2:(a0_2 == a1_2) = true:=by simpa using c6))
    clear c6
    by_cases c12:a0_3.toList = a1_3.toList
    ·rw [if_pos c12] at H
     have c12b0:(a0_3.toList == a1_3.toList) = true:=beq_iff_eq.mpr c12
     have c12b1:(a0_3.toList != a1_3.toList) = false:=bne_eq_false_iff_eq.mpr c12
     clear c12
     obtain rfl:=Option.some.inj H
     go_enter Tryd.func21,Tryd.ntmps21
     go_wp2_with (first|((with_reducible refine gate_dst (N:=2) rfl ?_);refine box_event ?hg (N:=2) ?hd (cs:=#[.string a0_0, .slice A0_1 l0_1.length c0_1, .bool a0_2, .string a0_3]) (t:=25) ?hr ?_;(case hd=>rfl);(case hg=>rfl);(case hr=>(go_simp <;> rfl));intro gb591 hg w13 hbox hb;have n0_:=Am (bT (by repeat (first|(with_reducible first|exact HB.out|apply bA|apply bN|apply bD)|exact HB.out)) hb);have n1_:=Am (hbox);have n2_:=Am ((by rw [hg];exact (bU (by repeat (first|(with_reducible first|exact HB.out|apply bA|apply bN|apply bD)|exact HB.out))):w.heap.size ≤ gb591));have n3_:=n2_;clear HB;have HB:=n0_;have BK591:=n1_;have GW591:=n2_;have GE591:=n3_;clear n0_ n1_ n2_ n3_ hb hbox hg)|((with_reducible refine gate_dst (N:=3) rfl ?_);refine box_event ?hg (N:=3) ?hd (cs:=#[.string a1_0, .slice A1_1 l1_1.length c1_1, .bool a1_2, .string a1_3]) (t:=25) ?hr ?_;(case hd=>rfl);(case hg=>rfl);(case hr=>(go_simp <;> rfl));intro gb592 hg w14 hbox hb;have n0_:=Am (blk_below (bB BK591.out) hb);have n1_:=Am (bT (by repeat (first|(with_reducible first|exact HB.out|apply bA|apply bN|apply bD|refine bS ?_ GE591.out)|exact HB.out)) hb);have n2_:=Am (hbox);have n3_:=Am ((by rw [hg];exact (bU (by repeat (first|(with_reducible first|exact HB.out|apply bA|apply bN|apply bD|refine bS ?_ GE591.out)|exact HB.out))):w.heap.size ≤ gb592));have n4_:=n3_;have n5_:=Am ((by rw [hg];exact Nat.ne_of_lt (blk_lt (bB BK591.out)):gb591 ≠ gb592));have n6_:=Am ((by rw [hg];exact Nat.ne_of_gt (blk_lt (bB BK591.out)):gb592 ≠ gb591));clear BK591 HB;have BK591:=n0_;have HB:=n1_;have BK592:=n2_;have GW592:=n3_;have GE592:=n4_;have NB591_592:=n5_;have NB592_591:=n6_;clear n0_ n1_ n2_ n3_ n4_ n5_ n6_ hb hbox hg;have hnb15:=NB591_592.out;have hnc15:=NB592_591.out;have hcz16_0:w14.cell? ⟨gb591,0,none⟩ = some (.string a0_0):=bM BK591.out 0 rfl;have hcz16_1:w14.cell? ⟨gb591,1,none⟩ = some (.slice A0_1 l0_1.length c0_1):=bM BK591.out 1 rfl;have hcz16_2:w14.cell? ⟨gb591,2,none⟩ = some (.bool a0_2):=bM BK591.out 2 rfl;have hcz16_3:w14.cell? ⟨gb591,3,none⟩ = some (.string a0_3):=bM BK591.out 3 rfl;have hfz16_0:=bZ BK591.out 0;have hfz16_1:=bZ BK591.out 1;have hfz16_2:=bZ BK591.out 2;have hfz16_3:=bZ BK591.out 3;have hcz17_0:w14.cell? ⟨gb592,0,none⟩ = some (.string a1_0):=bM BK592.out 0 rfl;have hcz17_1:w14.cell? ⟨gb592,1,none⟩ = some (.slice A1_1 l1_1.length c1_1):=bM BK592.out 1 rfl;have hcz17_2:w14.cell? ⟨gb592,2,none⟩ = some (.bool a1_2):=bM BK592.out 2 rfl;have hcz17_3:w14.cell? ⟨gb592,3,none⟩ = some (.string a1_3):=bM BK592.out 3 rfl;have hfz17_0:=bZ BK592.out 0;have hfz17_1:=bZ BK592.out 1;have hfz17_2:=bZ BK592.out 2;have hfz17_3:=bZ BK592.out 3)|((with_reducible refine gate_callee (f:=49) rfl ?_);refine goesL_ (some 14) rfl rfl Tryd.func49 (by kernel_rfl) rfl #[.slice A0_1 l0_1.length c0_1, .slice A1_1 l1_1.length c1_1] rfl (aE2 rfl rfl) ?_;(with_reducible refine (laws_eqStringS.calls k _ _ l0_1 _ _ l1_1 true _ ?side1 ?side2 ?side3 ?side4 A4.out).mono ?_);(case side1=>repeat (first|exact (Kd.C_below HR0_1.out HB.out)|(with_reducible refine bC ?_)));(case side2=>exact HC0_1.out);(case side3=>repeat (first|exact (Kd.C_below HR1_1.out HB.out)|(with_reducible refine bC ?_)));(case side4=>exact HC1_1.out);rintro e w' ⟨rfl,⟨nd,rfl⟩⟩;refine ⟨_,rfl,?_⟩))
     go_ret
     exact ⟨by first|rfl|(simp <;> rfl)|(simp [*] <;> rfl),by repeat (first|(with_reducible first|exact HB.out|apply bA|apply bN|apply bD|refine bS ?_ GE591.out|refine bS ?_ GE592.out)|exact HB.out)⟩
    ·rw [if_neg c12] at H
     have c12b0:(a0_3.toList == a1_3.toList) = false:=beq_eq_false_iff_ne.mpr c12
     have c12b1:(a0_3.toList != a1_3.toList) = true:=bne_iff_ne.mpr c12
     obtain rfl:=Option.some.inj H
     go_enter Tryd.func21,Tryd.ntmps21
     go_wp2_with (first|((with_reducible refine gate_dst (N:=2) rfl ?_);refine box_event ?hg (N:=2) ?hd (cs:=#[.string a0_0, .slice A0_1 l0_1.length c0_1, .bool a0_2, .string a0_3]) (t:=25) ?hr ?_;(case hd=>rfl);(case hg=>rfl);(case hr=>(go_simp <;> rfl));intro gb591 hg w18 hbox hb;have n0_:=Am (bT (by repeat (first|(with_reducible first|exact HB.out|apply bA|apply bN|apply bD)|exact HB.out)) hb);have n1_:=Am (hbox);have n2_:=Am ((by rw [hg];exact (bU (by repeat (first|(with_reducible first|exact HB.out|apply bA|apply bN|apply bD)|exact HB.out))):w.heap.size ≤ gb591));have n3_:=n2_;clear HB;have HB:=n0_;have BK591:=n1_;have GW591:=n2_;have GE591:=n3_;clear n0_ n1_ n2_ n3_ hb hbox hg)|((with_reducible refine gate_dst (N:=3) rfl ?_);refine box_event ?hg (N:=3) ?hd (cs:=#[.string a1_0, .slice A1_1 l1_1.length c1_1, .bool a1_2, .string a1_3]) (t:=25) ?hr ?_;(case hd=>rfl);(case hg=>rfl);(case hr=>(go_simp <;> rfl));intro gb592 hg w19 hbox hb;have n0_:=Am (blk_below (bB BK591.out) hb);have n1_:=Am (bT (by repeat (first|(with_reducible first|exact HB.out|apply bA|apply bN|apply bD|refine bS ?_ GE591.out)|exact HB.out)) hb);have n2_:=Am (hbox);have n3_:=Am ((by rw [hg];exact (bU (by repeat (first|(with_reducible first|exact HB.out|apply bA|apply bN|apply bD|refine bS ?_ GE591.out)|exact HB.out))):w.heap.size ≤ gb592));have n4_:=n3_;have n5_:=Am ((by rw [hg];exact Nat.ne_of_lt (blk_lt (bB BK591.out)):gb591 ≠ gb592));have n6_:=Am ((by rw [hg];exact Nat.ne_of_gt (blk_lt (bB BK591.out)):gb592 ≠ gb591));clear BK591 HB;have BK591:=n0_;have HB:=n1_;have BK592:=n2_;have GW592:=n3_;have GE592:=n4_;have NB591_592:=n5_;have NB592_591:=n6_;clear n0_ n1_ n2_ n3_ n4_ n5_ n6_ hb hbox hg;have hnb20:=NB591_592.out;have hnc20:=NB592_591.out;have hcz21_0:w19.cell? ⟨gb591,0,none⟩ = some (.string a0_0):=bM BK591.out 0 rfl;have hcz21_1:w19.cell? ⟨gb591,1,none⟩ = some (.slice A0_1 l0_1.length c0_1):=bM BK591.out 1 rfl;have hcz21_2:w19.cell? ⟨gb591,2,none⟩ = some (.bool a0_2):=bM BK591.out 2 rfl;have hcz21_3:w19.cell? ⟨gb591,3,none⟩ = some (.string a0_3):=bM BK591.out 3 rfl;have hfz21_0:=bZ BK591.out 0;have hfz21_1:=bZ BK591.out 1;have hfz21_2:=bZ BK591.out 2;have hfz21_3:=bZ BK591.out 3;have hcz22_0:w19.cell? ⟨gb592,0,none⟩ = some (.string a1_0):=bM BK592.out 0 rfl;have hcz22_1:w19.cell? ⟨gb592,1,none⟩ = some (.slice A1_1 l1_1.length c1_1):=bM BK592.out 1 rfl;have hcz22_2:w19.cell? ⟨gb592,2,none⟩ = some (.bool a1_2):=bM BK592.out 2 rfl;have hcz22_3:w19.cell? ⟨gb592,3,none⟩ = some (.string a1_3):=bM BK592.out 3 rfl;have hfz22_0:=bZ BK592.out 0;have hfz22_1:=bZ BK592.out 1;have hfz22_2:=bZ BK592.out 2;have hfz22_3:=bZ BK592.out 3)|((with_reducible refine gate_callee (f:=49) rfl ?_);refine goesL_ (some 14) rfl rfl Tryd.func49 (by kernel_rfl) rfl #[.slice A0_1 l0_1.length c0_1, .slice A1_1 l1_1.length c1_1] rfl (aE2 rfl rfl) ?_;(with_reducible refine (laws_eqStringS.calls k _ _ l0_1 _ _ l1_1 true _ ?side1 ?side2 ?side3 ?side4 A4.out).mono ?_);(case side1=>repeat (first|exact (Kd.C_below HR0_1.out HB.out)|(with_reducible refine bC ?_)));(case side2=>exact HC0_1.out);(case side3=>repeat (first|exact (Kd.C_below HR1_1.out HB.out)|(with_reducible refine bC ?_)));(case side4=>exact HC1_1.out);rintro e w' ⟨rfl,⟨nd,rfl⟩⟩;refine ⟨_,rfl,?_⟩))
     go_ret
     exact ⟨by first|rfl|(simp <;> rfl)|(simp [*] <;> rfl),by repeat (first|(with_reducible first|exact HB.out|apply bA|apply bN|apply bD|refine bS ?_ GE591.out|refine bS ?_ GE592.out)|exact HB.out)⟩
  ·replace c5:=Bool.eq_false_iff.mpr c5
   subst c5
   have H1:(some false) = some r:=by rw [if_neg (show ¬ (false = true) by decide)] at H;exact H
   clear H
   have H:=H1
   clear H1
   obtain rfl:=Option.some.inj H
   go_enter Tryd.func21,Tryd.ntmps21
   go_wp2_with (first|((with_reducible refine gate_dst (N:=2) rfl ?_);refine box_event ?hg (N:=2) ?hd (cs:=#[.string a0_0, .slice A0_1 l0_1.length c0_1, .bool a0_2, .string a0_3]) (t:=25) ?hr ?_;(case hd=>rfl);(case hg=>rfl);(case hr=>(go_simp <;> rfl));intro gb591 hg w23 hbox hb;have n0_:=Am (bT (by repeat (first|(with_reducible first|exact HB.out|apply bA|apply bN|apply bD)|exact HB.out)) hb);have n1_:=Am (hbox);have n2_:=Am ((by rw [hg];exact (bU (by repeat (first|(with_reducible first|exact HB.out|apply bA|apply bN|apply bD)|exact HB.out))):w.heap.size ≤ gb591));have n3_:=n2_;clear HB;have HB:=n0_;have BK591:=n1_;have GW591:=n2_;have GE591:=n3_;clear n0_ n1_ n2_ n3_ hb hbox hg)|((with_reducible refine gate_dst (N:=3) rfl ?_);refine box_event ?hg (N:=3) ?hd (cs:=#[.string a1_0, .slice A1_1 l1_1.length c1_1, .bool a1_2, .string a1_3]) (t:=25) ?hr ?_;(case hd=>rfl);(case hg=>rfl);(case hr=>(go_simp <;> rfl));intro gb592 hg w24 hbox hb;have n0_:=Am (blk_below (bB BK591.out) hb);have n1_:=Am (bT (by repeat (first|(with_reducible first|exact HB.out|apply bA|apply bN|apply bD|refine bS ?_ GE591.out)|exact HB.out)) hb);have n2_:=Am (hbox);have n3_:=Am ((by rw [hg];exact (bU (by repeat (first|(with_reducible first|exact HB.out|apply bA|apply bN|apply bD|refine bS ?_ GE591.out)|exact HB.out))):w.heap.size ≤ gb592));have n4_:=n3_;have n5_:=Am ((by rw [hg];exact Nat.ne_of_lt (blk_lt (bB BK591.out)):gb591 ≠ gb592));have n6_:=Am ((by rw [hg];exact Nat.ne_of_gt (blk_lt (bB BK591.out)):gb592 ≠ gb591));clear BK591 HB;have BK591:=n0_;have HB:=n1_;have BK592:=n2_;have GW592:=n3_;have GE592:=n4_;have NB591_592:=n5_;have NB592_591:=n6_;clear n0_ n1_ n2_ n3_ n4_ n5_ n6_ hb hbox hg;have hnb25:=NB591_592.out;have hnc25:=NB592_591.out;have hcz26_0:w24.cell? ⟨gb591,0,none⟩ = some (.string a0_0):=bM BK591.out 0 rfl;have hcz26_1:w24.cell? ⟨gb591,1,none⟩ = some (.slice A0_1 l0_1.length c0_1):=bM BK591.out 1 rfl;have hcz26_2:w24.cell? ⟨gb591,2,none⟩ = some (.bool a0_2):=bM BK591.out 2 rfl;have hcz26_3:w24.cell? ⟨gb591,3,none⟩ = some (.string a0_3):=bM BK591.out 3 rfl;have hfz26_0:=bZ BK591.out 0;have hfz26_1:=bZ BK591.out 1;have hfz26_2:=bZ BK591.out 2;have hfz26_3:=bZ BK591.out 3;have hcz27_0:w24.cell? ⟨gb592,0,none⟩ = some (.string a1_0):=bM BK592.out 0 rfl;have hcz27_1:w24.cell? ⟨gb592,1,none⟩ = some (.slice A1_1 l1_1.length c1_1):=bM BK592.out 1 rfl;have hcz27_2:w24.cell? ⟨gb592,2,none⟩ = some (.bool a1_2):=bM BK592.out 2 rfl;have hcz27_3:w24.cell? ⟨gb592,3,none⟩ = some (.string a1_3):=bM BK592.out 3 rfl;have hfz27_0:=bZ BK592.out 0;have hfz27_1:=bZ BK592.out 1;have hfz27_2:=bZ BK592.out 2;have hfz27_3:=bZ BK592.out 3)|((with_reducible refine gate_callee (f:=49) rfl ?_);refine goesL_ (some 14) rfl rfl Tryd.func49 (by kernel_rfl) rfl #[.slice A0_1 l0_1.length c0_1, .slice A1_1 l1_1.length c1_1] rfl (aE2 rfl rfl) ?_;(with_reducible refine (laws_eqStringS.calls k _ _ l0_1 _ _ l1_1 false _ ?side1 ?side2 ?side3 ?side4 A4.out).mono ?_);(case side1=>repeat (first|exact (Kd.C_below HR0_1.out HB.out)|(with_reducible refine bC ?_)));(case side2=>exact HC0_1.out);(case side3=>repeat (first|exact (Kd.C_below HR1_1.out HB.out)|(with_reducible refine bC ?_)));(case side4=>exact HC1_1.out);rintro e w' ⟨rfl,⟨nd,rfl⟩⟩;refine ⟨_,rfl,?_⟩))
   go_ret
   exact ⟨by first|rfl|(simp <;> rfl)|(simp [*] <;> rfl),by repeat (first|(with_reducible first|exact HB.out|apply bA|apply bN|apply bD|refine bS ?_ GE591.out|refine bS ?_ GE592.out)|exact HB.out)⟩
 ·rw [if_neg c3] at H
  have c3b0:(a0_0.toList == a1_0.toList) = false:=beq_eq_false_iff_ne.mpr c3
  have c3b1:(a0_0.toList != a1_0.toList) = true:=bne_iff_ne.mpr c3
  obtain rfl:=Option.some.inj H
  go_enter Tryd.func21,Tryd.ntmps21
  go_wp2_with (first|((with_reducible refine gate_dst (N:=2) rfl ?_);refine box_event ?hg (N:=2) ?hd (cs:=#[.string a0_0, .slice A0_1 l0_1.length c0_1, .bool a0_2, .string a0_3]) (t:=25) ?hr ?_;(case hd=>rfl);(case hg=>rfl);(case hr=>(go_simp <;> rfl));intro gb591 hg w28 hbox hb;have n0_:=Am (bT (by repeat (first|(with_reducible first|exact HB.out|apply bA|apply bN|apply bD)|exact HB.out)) hb);have n1_:=Am (hbox);have n2_:=Am ((by rw [hg];exact (bU (by repeat (first|(with_reducible first|exact HB.out|apply bA|apply bN|apply bD)|exact HB.out))):w.heap.size ≤ gb591));have n3_:=n2_;clear HB;have HB:=n0_;have BK591:=n1_;have GW591:=n2_;have GE591:=n3_;clear n0_ n1_ n2_ n3_ hb hbox hg)|((with_reducible refine gate_dst (N:=3) rfl ?_);refine box_event ?hg (N:=3) ?hd (cs:=#[.string a1_0, .slice A1_1 l1_1.length c1_1, .bool a1_2, .string a1_3]) (t:=25) ?hr ?_;(case hd=>rfl);(case hg=>rfl);(case hr=>(go_simp <;> rfl));intro gb592 hg w29 hbox hb;have n0_:=Am (blk_below (bB BK591.out) hb);have n1_:=Am (bT (by repeat (first|(with_reducible first|exact HB.out|apply bA|apply bN|apply bD|refine bS ?_ GE591.out)|exact HB.out)) hb);have n2_:=Am (hbox);have n3_:=Am ((by rw [hg];exact (bU (by repeat (first|(with_reducible first|exact HB.out|apply bA|apply bN|apply bD|refine bS ?_ GE591.out)|exact HB.out))):w.heap.size ≤ gb592));have n4_:=n3_;have n5_:=Am ((by rw [hg];exact Nat.ne_of_lt (blk_lt (bB BK591.out)):gb591 ≠ gb592));have n6_:=Am ((by rw [hg];exact Nat.ne_of_gt (blk_lt (bB BK591.out)):gb592 ≠ gb591));clear BK591 HB;have BK591:=n0_;have HB:=n1_;have BK592:=n2_;have GW592:=n3_;have GE592:=n4_;have NB591_592:=n5_;have NB592_591:=n6_;clear n0_ n1_ n2_ n3_ n4_ n5_ n6_ hb hbox hg;have hnb30:=NB591_592.out;have hnc30:=NB592_591.out;have hcz31_0:w29.cell? ⟨gb591,0,none⟩ = some (.string a0_0):=bM BK591.out 0 rfl;have hcz31_1:w29.cell? ⟨gb591,1,none⟩ = some (.slice A0_1 l0_1.length c0_1):=bM BK591.out 1 rfl;have hcz31_2:w29.cell? ⟨gb591,2,none⟩ = some (.bool a0_2):=bM BK591.out 2 rfl;have hcz31_3:w29.cell? ⟨gb591,3,none⟩ = some (.string a0_3):=bM BK591.out 3 rfl;have hfz31_0:=bZ BK591.out 0;have hfz31_1:=bZ BK591.out 1;have hfz31_2:=bZ BK591.out 2;have hfz31_3:=bZ BK591.out 3;have hcz32_0:w29.cell? ⟨gb592,0,none⟩ = some (.string a1_0):=bM BK592.out 0 rfl;have hcz32_1:w29.cell? ⟨gb592,1,none⟩ = some (.slice A1_1 l1_1.length c1_1):=bM BK592.out 1 rfl;have hcz32_2:w29.cell? ⟨gb592,2,none⟩ = some (.bool a1_2):=bM BK592.out 2 rfl;have hcz32_3:w29.cell? ⟨gb592,3,none⟩ = some (.string a1_3):=bM BK592.out 3 rfl;have hfz32_0:=bZ BK592.out 0;have hfz32_1:=bZ BK592.out 1;have hfz32_2:=bZ BK592.out 2;have hfz32_3:=bZ BK592.out 3))
  go_ret
  exact ⟨by first|rfl|(simp <;> rfl)|(simp [*] <;> rfl),by repeat (first|(with_reducible first|exact HB.out|apply bA|apply bN|apply bD|refine bS ?_ GE591.out|refine bS ?_ GE592.out)|exact HB.out)⟩

/-! ### laws_markText: function 73 -/
def laws_markText.l0:Nat → Int → ByteArray → Option (ByteArray)
 | 0,_,_=>none
 | k + 1,x0,x3=>if x0 > 0 then ((some (([(wrap64 (48 + (Int.tmod x0 10))) % 256]:List Int):List Int)).bind fun y594=>(if (strOfNums y594).size + x3.size ≤ 9223372036854775807 then (laws_markText.l0 k (wrap64 (Int.tdiv x0 10)) ((strOfNums y594) ++ x3)) else (none))) else (if 1 + x3.size ≤ 9223372036854775807 then (some ((⟨#[109]⟩:ByteArray) ++ x3)) else (none))
def laws_markText.f (k:Nat) (a0:Int):Option (ByteArray):=if a0 ≤ 0 then (some (⟨#[109,48]⟩:ByteArray)) else (laws_markText.l0 k a0 (⟨#[]⟩:ByteArray))
theorem laws_markText.mono_l:∀ k,(∀ y0 y1,LeO (laws_markText.l0 k y0 y1) (laws_markText.l0 (k + 1) y0 y1))
 | 0=>fun _ _ r h=>by simp [laws_markText.l0] at h
 | k + 1=>by
  have ih0:=laws_markText.mono_l k
  ·intro y0 y1
   unfold laws_markText.l0
   repeat' first
   | (with_reducible apply ih0)
   | (with_reducible exact LeO.refl _)
   | (with_reducible exact LeO.none _)
   | (with_reducible refine LeO.ite ?_ ?_)
   | (with_reducible refine LeO.bind ?_ (fun _=>?_))
   | exact ih0 _ _
   | exact LeO.none _
   | refine LeO.ite ?_ ?_
   | refine LeO.bind ?_ (fun _=>?_)
theorem laws_markText.mono:∀ a0 k,LeO (laws_markText.f k a0) (laws_markText.f (k + 1) a0):=by
 intro a0 k
 have ih0:=laws_markText.mono_l k
 unfold laws_markText.f
 repeat' first
   | (with_reducible apply ih0)
   | (with_reducible exact LeO.refl _)
   | (with_reducible exact LeO.none _)
   | (with_reducible refine LeO.ite ?_ ?_)
   | (with_reducible refine LeO.bind ?_ (fun _=>?_))
   | exact ih0 _ _
   | exact LeO.none _
   | refine LeO.ite ?_ ?_
   | refine LeO.bind ?_ (fun _=>?_)
theorem laws_markText.calls (k:Nat) (a0:Int) (r:ByteArray) (w:World) (h:laws_markText.f k a0 = some r) :
  Calls Tryd.prog 73 #[.int .i64 a0] w fun e w'=>e = .returned (.string r) ∧ Below w.heap.size w w':=by
 have HB:=Am (Below.refl w.heap.size w)
 have H:(if a0 ≤ 0 then (some (⟨#[109,48]⟩:ByteArray)) else (laws_markText.l0 k a0 (⟨#[]⟩:ByteArray))) = some r:=h
 clear h
 by_cases c2:a0 ≤ 0
 ·rw [if_pos c2] at H
  have c2b0:decide (a0 ≤ 0) = true:=decide_eq_true c2
  clear c2
  obtain rfl:=Option.some.inj H
  go_enter Tryd.func73,Tryd.ntmps73
  go_wp2
  go_ret
  exact ⟨by first|rfl|(simp <;> rfl)|(simp [*] <;> rfl),by repeat (first|(with_reducible first|exact HB.out|apply bA|apply bN|apply bD)|exact HB.out)⟩
 ·rw [if_neg c2] at H
  have c2b0:decide (a0 ≤ 0) = false:=decide_eq_false c2
  clear c2
  have H':=Am H
  clear H
  go_enter Tryd.func73,Tryd.ntmps73
  go_wp2
  go_loopg [0,3] k (fun kq v0 v3 w'=>∃ (x0_1:Int) (x3_1:ByteArray),v0 = .int .i64 x0_1 ∧ v3 = .string x3_1 ∧ Aside0 (laws_markText.l0 kq x0_1 x3_1 = some r) ∧ Aside0 (kq ≤ k) ∧ Aside0 (Below w.heap.size w w'))
  case atStart=>exact ⟨(a0),((⟨#[]⟩:ByteArray)),(by first|rfl|(simp;done)|(simp only [i64_w,i32_w] <;> rfl)|(simp [*];done)|(simp [emp_bne,emp_beq];done)),(by first|rfl|(simp;done)|(simp only [i64_w,i32_w] <;> rfl)|(simp [*];done)|(simp [emp_bne,emp_beq];done)),H',⟨Nat.le_refl _⟩,⟨by repeat (first|(with_reducible first|exact HB.out|apply bA|apply bN|apply bD)|exact HB.out)⟩⟩
  case round =>
   clear H'
   try clear c2
   try clear c2b0
   try clear p2
   obtain ⟨x0_1,x3_1,rfl,rfl,HA,HK1,HB⟩:=hrel
   cases gk with
   | zero=>exact absurd HA.out (by simp [laws_markText.l0])
   | succ k1 =>
    have H:=HA.out
    clear HA
    simp only [laws_markText.l0] at H
    by_cases c3:x0_1 > 0
    ·rw [if_pos c3] at H
     have c3b0:decide (0 < x0_1) = true:=decide_eq_true c3
     clear c3
     obtain ⟨y594,hy594⟩:∃ y_:List Int,y_ = (([(wrap64 (48 + (Int.tmod x0_1 10))) % 256]:List Int)):=⟨_,rfl⟩
     replace H:(if (strOfNums y594).size + x3_1.size ≤ 9223372036854775807 then (laws_markText.l0 k1 (wrap64 (Int.tdiv x0_1 10)) ((strOfNums y594) ++ x3_1)) else (none)) = some r:=by first|(rw [hy594];with_reducible exact H)|(have H2_:=(Option.bind_some _ _).symm.trans H;rw [hy594];with_reducible exact H2_)|(have H2_:=(Option.bind_some _ _).symm.trans H;with_reducible exact H2_)|with_reducible exact H|(rw [hy594];exact H)|exact H
     have Ny594:=Am hy594
     clear hy594
     by_cases c4:(strOfNums y594).size + x3_1.size ≤ 9223372036854775807
     ·rw [if_pos c4] at H
      have c4b0:=eq_true c4
      have c4b1:=decide_eq_true c4
      try have c4b2:(9223372036854775807 < (strOfNums y594).size + x3_1.size) = False:=eq_false (Nat.not_lt.2 c4)
      have H':=Am H
      clear H
      go_wp2_with (first|((with_reducible refine gate_dst (N:=12) rfl ?_);refine Kd.R_lit (Kd.int .u8) _ 5 ?hg (N:=12) ?hd (xs:=([(wrap64 (48 + (Int.tmod x0_1 10))) % 256]:List Int)) (inner:=[.int .u8 ((wrap64 (48 + (Int.tmod x0_1 10))) % 256)]) (ok:=fun _=>True) (okp:=fun _=>True) ?hr ?hp (fun _ hk=>hk) trivial (Below.refl _ _) (Nat.le_refl _) (by simp) ?_;(case hd=>rfl);(case hg=>rfl);(case hr=>(go_simp <;> rfl));(case hp=>exact (Reps.one (show Kd.M (Kd.int .u8) _ _ _ ((wrap64 (48 + (Int.tmod x0_1 10))) % 256) [.int .u8 ((wrap64 (48 + (Int.tmod x0_1 10))) % 256)] from rfl) (Reps.none _ _)));intro v595 w5 ho6 hb hg_ hnew_;clear hg_ hnew_;(first|rw [← Ny594.out] at ho6|(simp only [Int.reduceToNat] at ho6;rw [← Ny594.out] at ho6));have n0_:=Am (Kd.R_lower ho6 (bU (by repeat (first|(with_reducible first|exact HB.out|apply bA|apply bN|apply bD)|exact HB.out))));have n1_:=Am (bT (by repeat (first|(with_reducible first|exact HB.out|apply bA|apply bN|apply bD)|exact HB.out)) hb);clear HB;have HO596:=n0_;have HB:=n1_;clear n0_ n1_ hb ho6;have hcv7:=own_string (P:=Tryd.prog) Tryd.underlying22 Tryd.underlying5 Tryd.underlying9 (Kd.own_of_R HO596.out)))
      go_roundg k1
      case measure=>have:=HK1.out;omega
      case rel=>exact ⟨(wrap64 (Int.tdiv x0_1 10)),((strOfNums y594) ++ x3_1),(by first|rfl|(simp;done)|(simp only [i64_w,i32_w] <;> rfl)|(simp [*];done)|(simp [emp_bne,emp_beq];done)),(by first|rfl|(simp;done)|(simp only [i64_w,i32_w] <;> rfl)|(simp [*];done)|(simp [emp_bne,emp_beq];done)),H',⟨by have:=HK1.out;omega⟩,⟨by repeat (first|(with_reducible first|exact HB.out|apply bA|apply bN|apply bD)|exact HB.out)⟩⟩
     ·rw [if_neg c4] at H
      exact absurd H (by simp)
    ·rw [if_neg c3] at H
     have c3b0:decide (0 < x0_1) = false:=decide_eq_false c3
     clear c3
     by_cases c8:1 + x3_1.size ≤ 9223372036854775807
     ·rw [if_pos c8] at H
      have c8b0:=eq_true c8
      have c8b1:=decide_eq_true c8
      try have c8b2:(9223372036854775807 < 1 + x3_1.size) = False:=eq_false (Nat.not_lt.2 c8)
      obtain rfl:=Option.some.inj H
      go_wp2
      go_ret
      exact ⟨by first|rfl|(simp <;> rfl)|(simp [*] <;> rfl),by repeat (first|(with_reducible first|exact HB.out|apply bA|apply bN|apply bD)|exact HB.out)⟩
     ·rw [if_neg c8] at H
      exact absurd H (by simp)

/-! ### laws_markStringS: function 50 -/
def laws_markStringS.l0:Nat → List ByteArray → Int → Int → Option (Int × List ByteArray)
 | 0,_,_,_=>none
 | k + 1,x0,x1,x5=>if x5 < (x0.length:Int) then ((laws_markText.f k x1).bind fun t597=>(if 0 ≤ x5 then (laws_markStringS.l0 k (x0.set (x5:Int).toNat t597) (wrap64 (x1 + 1)) (wrap64 (x5 + 1))) else (none))) else (some (x1,x0))
def laws_markStringS.f (k:Nat) (l0:List ByteArray) (a1:Int):Option (Int × List ByteArray):=laws_markStringS.l0 k l0 a1 0
theorem laws_markStringS.mono_l:∀ k,(∀ y0 y1 y2,LeO (laws_markStringS.l0 k y0 y1 y2) (laws_markStringS.l0 (k + 1) y0 y1 y2))
 | 0=>fun _ _ _ r h=>by simp [laws_markStringS.l0] at h
 | k + 1=>by
  have ih0:=laws_markStringS.mono_l k
  ·intro y0 y1 y2
   unfold laws_markStringS.l0
   repeat' first
   | (with_reducible apply ih0)
   | (with_reducible apply laws_markText.mono)
   | (with_reducible exact LeO.refl _)
   | (with_reducible exact LeO.none _)
   | (with_reducible refine LeO.ite ?_ ?_)
   | (with_reducible refine LeO.bind ?_ (fun _=>?_))
   | exact ih0 _ _ _
   | exact laws_markText.mono _ _
   | exact LeO.none _
   | refine LeO.ite ?_ ?_
   | refine LeO.bind ?_ (fun _=>?_)
theorem laws_markStringS.mono:∀ a0 a1 k,LeO (laws_markStringS.f k a0 a1) (laws_markStringS.f (k + 1) a0 a1):=by
 intro a0 a1 k
 have ih0:=laws_markStringS.mono_l k
 unfold laws_markStringS.f
 repeat' first
   | (with_reducible apply ih0)
   | (with_reducible apply laws_markText.mono)
   | (with_reducible exact LeO.refl _)
   | (with_reducible exact LeO.none _)
   | (with_reducible refine LeO.ite ?_ ?_)
   | (with_reducible refine LeO.bind ?_ (fun _=>?_))
   | exact ih0 _ _ _
   | exact laws_markText.mono _ _
   | exact LeO.none _
   | refine LeO.ite ?_ ?_
   | refine LeO.bind ?_ (fun _=>?_)
theorem laws_markStringS.calls (k:Nat) (P0_:Nat → Prop) (u9000_:Value) (l0:List ByteArray) (a1:Int) (r1:Int) (r2:List ByteArray) (w0 w:World) (hB:Below w0.heap.size w0 w) (ho0:Kd.R Kd.string 9 w w0.heap.size P0_ u9000_ l0) (h:laws_markStringS.f k l0 a1 = some (r1,r2)) :
  Calls Tryd.prog 50 #[u9000_, .int .i64 a1] w fun e w'=>e = .returned (.int .i64 r1) ∧ Kd.R Kd.string 9 w' w0.heap.size (fun k_=>(P0_ k_ ∨ w.heap.size ≤ k_)) u9000_ r2 ∧ Below w0.heap.size w0 w' ∧ Kept w w' (fun k_=>P0_ k_):=by
 have HO0:=Am (show Kd.R Kd.string 9 w w0.heap.size (fun k_=>(P0_ k_ ∨ w.heap.size ≤ k_)) u9000_ l0 from Kd.R_mono ho0 (fun k_ hk=>(.inl hk)))
 have HK:=Am (Kept.refl w (fun k_=>P0_ k_))
 have HW0:=Am hB.size
 have HB:=Am hB
 clear hB
 have H:(laws_markStringS.l0 k l0 a1 0) = some (r1,r2):=h
 clear h
 have H':=Am H
 clear H
 go_enter Tryd.func50,Tryd.ntmps50
 go_wp2
 go_loopg [1,5] k (fun kq v1 v5 w'=>∃ (x0_1:List ByteArray) (x1_1:Int) (x5_1:Int),v1 = .int .i64 x1_1 ∧ v5 = .int .i64 x5_1 ∧ Aside0 (laws_markStringS.l0 kq x0_1 x1_1 x5_1 = some (r1,r2)) ∧ Aside0 (kq ≤ k) ∧ Aside0 (Kd.R Kd.string 9 w' w0.heap.size (fun k_=>(P0_ k_ ∨ w.heap.size ≤ k_)) u9000_ x0_1) ∧ Aside0 (Kept w w' (fun k_=>P0_ k_)) ∧ Aside0 (Below w0.heap.size w0 w'))
 case atStart=>exact ⟨(l0),(a1),(0),(by first|rfl|(simp;done)|(simp only [i64_w,i32_w] <;> rfl)|(simp [*];done)|(simp [emp_bne,emp_beq];done)),(by first|rfl|(simp;done)|(simp only [i64_w,i32_w] <;> rfl)|(simp [*];done)|(simp [emp_bne,emp_beq];done)),H',⟨Nat.le_refl _⟩,⟨by (with_reducible repeat (first|apply rA|apply rN|apply rD));exact HO0.out⟩,⟨by repeat (first|(with_reducible first|exact HK.out|apply Kept.alloc|apply Kept.drewN|apply Kept.drew)|exact HK.out)⟩,⟨by repeat (first|(with_reducible first|exact HB.out|apply bA|apply bN|apply bD)|exact HB.out)⟩⟩
 case round =>
  clear H'
  try clear p2
  obtain ⟨x0_1,x1_1,x5_1,rfl,rfl,HA,HK1,HO_0,HK,HB⟩:=hrel
  cases gk with
  | zero=>exact absurd HA.out (by simp [laws_markStringS.l0])
  | succ k1 =>
   have H:=HA.out
   clear HA
   simp only [laws_markStringS.l0] at H
   by_cases c3:x5_1 < (x0_1.length:Int)
   ·rw [if_pos c3] at H
    have c3b0:decide (x5_1 < (x0_1.length:Int)) = true:=decide_eq_true c3
    clear c3
    replace H:=bI H
    obtain ⟨t597,A40,H⟩:=H
    replace H:(if 0 ≤ x5_1 then (laws_markStringS.l0 k1 (x0_1.set (x5_1:Int).toNat t597) (wrap64 (x1_1 + 1)) (wrap64 (x5_1 + 1))) else (none)) = some (r1,r2):=H
    have A4:=Am A40
    clear A40
    by_cases c5:0 ≤ x5_1
    ·rw [if_pos c5] at H
     have c5b0:decide (0 ≤ x5_1) = true:=decide_eq_true c5
     clear c5
     obtain ⟨y598,hy598⟩:∃ y_:List ByteArray,y_ = (x0_1.set (x5_1:Int).toNat t597):=⟨_,rfl⟩
     replace H:(laws_markStringS.l0 k1 y598 (wrap64 (x1_1 + 1)) (wrap64 (x5_1 + 1))) = some (r1,r2):=by first|(rw [hy598];with_reducible exact H)|(have H2_:=(Option.bind_some _ _).symm.trans H;rw [hy598];with_reducible exact H2_)|(have H2_:=(Option.bind_some _ _).symm.trans H;with_reducible exact H2_)|with_reducible exact H|(rw [hy598];exact H)|exact H
     have Ny598:=Am hy598
     clear hy598
     have H':=Am H
     clear H
     obtain ⟨Ao7,co7,eo7⟩:=Kd.R_slice HO_0.out
     subst eo7
     go_wp2_with (first|((with_reducible refine gate_callee (f:=73) rfl ?_);refine goesL_ (some 15) rfl rfl Tryd.func73 (by kernel_rfl) rfl #[.int .i64 x1_1] rfl (aE1 rfl) ?_;(with_reducible refine (laws_markText.calls k1 x1_1 t597 _ A4.out).mono ?_);rintro e w8 ⟨rfl,hb⟩;refine ⟨_,rfl,?_⟩;have n0_:=Am (Kd.R_below (bR HO_0.out) hb);have n1_:=Am (Kept.below (S:=(fun k_=>P0_ k_)) (by repeat (first|(with_reducible first|exact HK.out|apply Kept.alloc|apply Kept.drewN|apply Kept.drew)|exact HK.out)) hb);have n2_:=Am (bT (by repeat (first|(with_reducible first|exact HB.out|apply bA|apply bN|apply bD)|exact HB.out)) hb);clear HO_0 HK HB;have HO_0:=n0_;have HK:=n1_;have HB:=n2_;clear n0_ n1_ n2_;(try clear hb);have p6:0 ≤ (x5_1:Int):=oD (by assumption);have q6:(x5_1:Int) < ((x0_1.length:Int):Int):=oD (by assumption);obtain ⟨go6,co6,eo6,gb6,gl6,cl6,HG6⟩:=Kd.R_form HO_0.out (by omega);(first|cases eo6|(injection eo6 with ea_ en_ ec_;(first|subst ea_|(injection ea_ with ea_;subst ea_));subst ec_;clear en_));have GB6:=Am gb6;have GG6:=Am HG6;clear gb6 gl6 HG6;have HMgo6:=Am (show (P0_ go6 ∨ w.heap.size ≤ go6) from (HO_0.out.1 _ rfl));obtain ⟨hx6_0,hf6_0⟩:=Kd.R_celln (⟨#[]⟩:ByteArray) HO_0.out (x5_1:Int) p6 q6;replace p6:=eq_true p6;replace q6:=eq_true q6;obtain ⟨hy9_,hz9_⟩:=Kd.R_celln (⟨#[]⟩:ByteArray) HO_0.out (x5_1:Int) (oD (by assumption)) (oD (by assumption));have HP9:=Kd.R_putg HO_0.out (x5_1:Int) t597)|((with_reducible refine gate_store (t:=9) (p:=16) rfl ?_);refine store_event (t:=9) (p:=16) (v:=?vo_w10) (w1:=(w8.setCell ⟨go6,(x5_1:Int).toNat,none⟩ (.string t597))) ?hg ?ho ?hn ?hr ?_;(case ho=>rfl);(case hg=>rfl);(case hn=>rfl);(case hr=>(go_simp <;> rfl));intro w10 hw;have hg:w8.grownBy w10 (some go6):=(by rw [hw];exact HP9.2);have hp_:Kd.R Kd.string 9 w10 w0.heap.size (fun k_=>(P0_ k_ ∨ w.heap.size ≤ k_)) (.slice (some ⟨go6,0,none⟩) x0_1.length co7) y598:=(by rw [hw,Ny598.out];exact HP9.1);clear HP9;have n0_:=Am (hp_);have n1_:=Am ((by rw [hw];exact below_set (HB.out) GB6.out:Below w0.heap.size w0 w10));have n2_:=Am (Kept.of_grown (S:=(fun k_=>P0_ k_)) hg (by repeat (first|(with_reducible first|exact HK.out|apply Kept.alloc|apply Kept.drewN|apply Kept.drew)|exact HK.out)) (fun k_ e_=>(HO_0.out.1 k_ e_)));clear HO_0 HB HK;have HO_0:=n0_;have HB:=n1_;have HK:=n2_;clear n0_ n1_ n2_ hg hw hp_))
     go_roundg k1
     case measure=>have:=HK1.out;omega
     case rel=>exact ⟨(y598),(wrap64 (x1_1 + 1)),(wrap64 (x5_1 + 1)),(by first|rfl|(simp;done)|(simp only [i64_w,i32_w] <;> rfl)|(simp [*];done)|(simp [emp_bne,emp_beq];done)),(by first|rfl|(simp;done)|(simp only [i64_w,i32_w] <;> rfl)|(simp [*];done)|(simp [emp_bne,emp_beq];done)),H',⟨by have:=HK1.out;omega⟩,⟨by (with_reducible repeat (first|apply rA|apply rN|apply rD));exact HO_0.out⟩,⟨by repeat (first|(with_reducible first|exact HK.out|apply Kept.alloc|apply Kept.drewN|apply Kept.drew)|exact HK.out)⟩,⟨by repeat (first|(with_reducible first|exact HB.out|apply bA|apply bN|apply bD)|exact HB.out)⟩⟩
    ·rw [if_neg c5] at H
     exact absurd H (by simp)
   ·rw [if_neg c3] at H
    have c3b0:decide (x5_1 < (x0_1.length:Int)) = false:=decide_eq_false c3
    clear c3
    simp only [Option.some.injEq,Prod.mk.injEq] at H
    obtain ⟨rfl,rfl⟩:=H
    obtain ⟨Ao11,co11,eo11⟩:=Kd.R_slice HO_0.out
    subst eo11
    go_wp2
    go_ret
    exact ⟨by first|rfl|(simp <;> rfl)|(simp [*] <;> rfl),by (with_reducible repeat (first|apply rA|apply rN|apply rD));exact HO_0.out,by repeat (first|(with_reducible first|exact HB.out|apply bA|apply bN|apply bD)|exact HB.out),by repeat (first|(with_reducible first|exact HK.out|apply Kept.alloc|apply Kept.drewN|apply Kept.drew)|exact HK.out)⟩

/-! ### laws_markAddr: function 22 -/
def laws_markAddr.f (k:Nat) (a0_0:ByteArray) (l0_1:List ByteArray) (a0_2:Bool) (a0_3:ByteArray) (a1:Int):Option (Int × List ByteArray):=(laws_markStringS.f k l0_1 a1).bind fun bt600=>(some (bt600.1,bt600.2))
theorem laws_markAddr.mono:∀ a0 a1 a2 a3 a4 k,LeO (laws_markAddr.f k a0 a1 a2 a3 a4) (laws_markAddr.f (k + 1) a0 a1 a2 a3 a4):=by
 intro a0 a1 a2 a3 a4 k
 unfold laws_markAddr.f
 repeat' first
   | (with_reducible apply laws_markStringS.mono)
   | (with_reducible exact LeO.refl _)
   | (with_reducible exact LeO.none _)
   | (with_reducible refine LeO.ite ?_ ?_)
   | (with_reducible refine LeO.bind ?_ (fun _=>?_))
   | exact laws_markStringS.mono _ _ _
   | exact LeO.none _
   | refine LeO.ite ?_ ?_
   | refine LeO.bind ?_ (fun _=>?_)
theorem laws_markAddr.calls (k:Nat) (a0_0:ByteArray) (P0_1_:Nat → Prop) (u9000_:Value) (l0_1:List ByteArray) (a0_2:Bool) (a0_3:ByteArray) (a1:Int) (r1:Int) (r2:List ByteArray) (w0 w:World) (hB:Below w0.heap.size w0 w) (ho0_1:Kd.R Kd.string 9 w w0.heap.size P0_1_ u9000_ l0_1) (h:laws_markAddr.f k a0_0 l0_1 a0_2 a0_3 a1 = some (r1,r2)) :
  Calls Tryd.prog 22 #[.agg #[.string a0_0,u9000_, .bool a0_2, .string a0_3], .int .i64 a1] w fun e w'=>e = .returned (.int .i64 r1) ∧ Kd.R Kd.string 9 w' w0.heap.size (fun k_=>(P0_1_ k_ ∨ w.heap.size ≤ k_)) u9000_ r2 ∧ Below w0.heap.size w0 w' ∧ Kept w w' (fun k_=>P0_1_ k_):=by
 have hu25:=Tryd.underlying25
 have HO0_1:=Am (show Kd.R Kd.string 9 w w0.heap.size (fun k_=>(P0_1_ k_ ∨ w.heap.size ≤ k_)) u9000_ l0_1 from Kd.R_mono ho0_1 (fun k_ hk=>(.inl hk)))
 have HK:=Am (Kept.refl w (fun k_=>P0_1_ k_))
 have HW0:=Am hB.size
 have HB:=Am hB
 clear hB
 have H:((laws_markStringS.f k l0_1 a1).bind fun bt600=>(some (bt600.1,bt600.2))) = some (r1,r2):=h
 clear h
 replace H:=bI H
 obtain ⟨⟨t600,t601⟩,A30,H⟩:=H
 replace H:(some (t600,t601)) = some (r1,r2):=H
 have A3:=Am A30
 clear A30
 simp only [Option.some.injEq,Prod.mk.injEq] at H
 obtain ⟨rfl,rfl⟩:=H
 obtain ⟨Ao4,co4,eo4⟩:=Kd.R_slice HO0_1.out
 subst eo4
 go_enter Tryd.func22,Tryd.ntmps22
 go_wp2_with (first|((with_reducible refine gate_dst (N:=2) rfl ?_);refine box_event ?hg (N:=2) ?hd (cs:=#[.string a0_0, .slice Ao4 l0_1.length co4, .bool a0_2, .string a0_3]) (t:=25) ?hr ?_;(case hd=>rfl);(case hg=>rfl);(case hr=>(go_simp <;> rfl));intro gb599 hg w5 hbox hb;have n0_:=Am (Kd.R_below (bR HO0_1.out) hb);have n1_:=Am (Kept.below (S:=(fun k_=>P0_1_ k_)) (by repeat (first|(with_reducible first|exact HK.out|apply Kept.alloc|apply Kept.drewN|apply Kept.drew)|exact HK.out)) hb);have n2_:=Am (bT (by repeat (first|(with_reducible first|exact HB.out|apply bA|apply bN|apply bD)|exact HB.out)) hb);have n3_:=Am (hbox);have n4_:=Am ((by rw [hg];exact (by first|exact HK.out.1|exact (show Kept w _ (fun k_=>P0_1_ k_) from by repeat (first|(with_reducible first|exact HK.out|apply Kept.alloc|apply Kept.drewN|apply Kept.drew)|exact HK.out)).1):w.heap.size ≤ gb599));have n5_:=Am ((by rw [hg];exact (bU (by repeat (first|(with_reducible first|exact HB.out|apply bA|apply bN|apply bD)|exact HB.out))):w0.heap.size ≤ gb599));clear HO0_1 HK HB;have HO0_1:=n0_;have HK:=n1_;have HB:=n2_;have BK599:=n3_;have GW599:=n4_;have GE599:=n5_;clear n0_ n1_ n2_ n3_ n4_ n5_ hb hbox hg;have hcz6_0:w5.cell? ⟨gb599,0,none⟩ = some (.string a0_0):=bM BK599.out 0 rfl;have hcz6_1:w5.cell? ⟨gb599,1,none⟩ = some (.slice Ao4 l0_1.length co4):=bM BK599.out 1 rfl;have hcz6_2:w5.cell? ⟨gb599,2,none⟩ = some (.bool a0_2):=bM BK599.out 2 rfl;have hcz6_3:w5.cell? ⟨gb599,3,none⟩ = some (.string a0_3):=bM BK599.out 3 rfl;have hfz6_0:=bZ BK599.out 0;have hfz6_1:=bZ BK599.out 1;have hfz6_2:=bZ BK599.out 2;have hfz6_3:=bZ BK599.out 3)|((with_reducible refine gate_callee (f:=50) rfl ?_);refine goesL_ (some 8) rfl rfl Tryd.func50 (by kernel_rfl) rfl #[.slice Ao4 l0_1.length co4, .int .i64 a1] rfl (aE2 rfl rfl) ?_;(with_reducible refine (laws_markStringS.calls k (fun k_=>some k_ = (.slice Ao4 l0_1.length co4:Value).ownBlock) (.slice Ao4 l0_1.length co4) l0_1 a1 t600 t601 w0 _ ?side1 ?side2 A3.out).mono ?_);(case side1=>repeat (first|(with_reducible first|exact HB.out|apply bA|apply bN|apply bD|refine bS ?_ GE599.out)|exact HB.out));(case side2=>exact Kd.R_tight rfl HO0_1.out);rintro e w7 ⟨rfl,hy0,hb,hkp⟩;refine ⟨_,rfl,?_⟩;have n0_:=Am (Kd.R_reok rfl hy0 (fun k_ e_=>HO0_1.out.1 k_ e_));have n1_:=Am (blk_kept (bB BK599.out) hkp (fun hs_=>(fun e_=>(Kd.R_ne HO0_1.out BK599.out (by decide)) e_) hs_));have n2_:=Am (Kept.then_ (S:=(fun k_=>P0_1_ k_)) (by repeat (first|(with_reducible first|exact HK.out|apply Kept.alloc|apply Kept.drewN|apply Kept.drew|refine Kept.setCell ?_ (.inr GW599.out) _)|exact HK.out)) hkp (fun k_ hs_=>(fun e_=>(HO0_1.out.1 k_ e_.symm)) hs_));have n3_:=Am (hb);clear HO0_1 BK599 HK HB;have HO0_1:=n0_;have BK599:=n1_;have HK:=n2_;have HB:=n3_;clear n0_ n1_ n2_ n3_;(try clear hb);(try clear hkp);(try clear hy0)))
 go_ret
 exact ⟨by first|rfl|(simp <;> rfl)|(simp [*] <;> rfl),by (with_reducible repeat (first|apply rA|apply rN|apply rD));exact HO0_1.out,by repeat (first|(with_reducible first|exact HB.out|apply bA|apply bN|apply bD|refine bS ?_ GE599.out)|exact HB.out),by repeat (first|(with_reducible first|exact HK.out|apply Kept.alloc|apply Kept.drewN|apply Kept.drew|refine Kept.setCell ?_ (.inr GW599.out) _)|exact HK.out)⟩

/-! ### laws_heldStringS: function 51 -/
def laws_heldStringS.l0:Nat → List ByteArray → Int → Int → Option (Int)
 | 0,_,_,_=>none
 | k + 1,x0,x1,x5=>if x5 < (x0.length:Int) then (if 0 ≤ x5 then ((laws_markText.f k x1).bind fun t603=>(if (rdOf ByteArray.empty x0 x5).toList = t603.toList then (laws_heldStringS.l0 k x0 (wrap64 (x1 + 1)) (wrap64 (x5 + 1))) else (some (-1)))) else (none)) else (some x1)
def laws_heldStringS.f (k:Nat) (l0:List ByteArray) (a1:Int):Option (Int):=laws_heldStringS.l0 k l0 a1 0
theorem laws_heldStringS.mono_l:∀ k,(∀ y0 y1 y2,LeO (laws_heldStringS.l0 k y0 y1 y2) (laws_heldStringS.l0 (k + 1) y0 y1 y2))
 | 0=>fun _ _ _ r h=>by simp [laws_heldStringS.l0] at h
 | k + 1=>by
  have ih0:=laws_heldStringS.mono_l k
  ·intro y0 y1 y2
   unfold laws_heldStringS.l0
   repeat' first
   | (with_reducible apply ih0)
   | (with_reducible apply laws_markText.mono)
   | (with_reducible exact LeO.refl _)
   | (with_reducible exact LeO.none _)
   | (with_reducible refine LeO.ite ?_ ?_)
   | (with_reducible refine LeO.bind ?_ (fun _=>?_))
   | exact ih0 _ _ _
   | exact laws_markText.mono _ _
   | exact LeO.none _
   | refine LeO.ite ?_ ?_
   | refine LeO.bind ?_ (fun _=>?_)
theorem laws_heldStringS.mono:∀ a0 a1 k,LeO (laws_heldStringS.f k a0 a1) (laws_heldStringS.f (k + 1) a0 a1):=by
 intro a0 a1 k
 have ih0:=laws_heldStringS.mono_l k
 unfold laws_heldStringS.f
 repeat' first
   | (with_reducible apply ih0)
   | (with_reducible apply laws_markText.mono)
   | (with_reducible exact LeO.refl _)
   | (with_reducible exact LeO.none _)
   | (with_reducible refine LeO.ite ?_ ?_)
   | (with_reducible refine LeO.bind ?_ (fun _=>?_))
   | exact ih0 _ _ _
   | exact laws_markText.mono _ _
   | exact LeO.none _
   | refine LeO.ite ?_ ?_
   | refine LeO.bind ?_ (fun _=>?_)
theorem laws_heldStringS.calls (k:Nat) (A0:Option Addr) (c0:Nat) (l0:List ByteArray) (a1:Int) (r:Int) (w:World) (hr0:Kd.C Kd.string w A0 l0.length l0) (hc0:l0.length ≤ c0) (h:laws_heldStringS.f k l0 a1 = some r) :
  Calls Tryd.prog 51 #[.slice A0 l0.length c0, .int .i64 a1] w fun e w'=>e = .returned (.int .i64 r) ∧ Below w.heap.size w w':=by
 have HR0:=Am hr0
 have HC0:=Am hc0
 clear hr0 hc0
 have HB:=Am (Below.refl w.heap.size w)
 have H:(laws_heldStringS.l0 k l0 a1 0) = some r:=h
 clear h
 have H':=Am H
 clear H
 go_enter Tryd.func51,Tryd.ntmps51
 go_wp2
 go_loopg [1,5] k (fun kq v1 v5 w'=>∃ (x1_1:Int) (x5_1:Int),v1 = .int .i64 x1_1 ∧ v5 = .int .i64 x5_1 ∧ Aside0 (laws_heldStringS.l0 kq l0 x1_1 x5_1 = some r) ∧ Aside0 (kq ≤ k) ∧ Aside0 (Below w.heap.size w w'))
 case atStart=>exact ⟨(a1),(0),(by first|rfl|(simp;done)|(simp only [i64_w,i32_w] <;> rfl)|(simp [*];done)|(simp [emp_bne,emp_beq];done)),(by first|rfl|(simp;done)|(simp only [i64_w,i32_w] <;> rfl)|(simp [*];done)|(simp [emp_bne,emp_beq];done)),H',⟨Nat.le_refl _⟩,⟨by repeat (first|(with_reducible first|exact HB.out|apply bA|apply bN|apply bD)|exact HB.out)⟩⟩
 case round =>
  clear H'
  try clear p2
  obtain ⟨x1_1,x5_1,rfl,rfl,HA,HK1,HB⟩:=hrel
  cases gk with
  | zero=>exact absurd HA.out (by simp [laws_heldStringS.l0])
  | succ k1 =>
   have H:=HA.out
   clear HA
   simp only [laws_heldStringS.l0] at H
   by_cases c3:x5_1 < (l0.length:Int)
   ·rw [if_pos c3] at H
    have c3b0:decide (x5_1 < (l0.length:Int)) = true:=decide_eq_true c3
    clear c3
    by_cases c4:0 ≤ x5_1
    ·rw [if_pos c4] at H
     have c4b0:decide (0 ≤ x5_1) = true:=decide_eq_true c4
     clear c4
     replace H:=bI H
     obtain ⟨t603,A50,H⟩:=H
     replace H:(if (rdOf ByteArray.empty l0 x5_1).toList = t603.toList then (laws_heldStringS.l0 k1 l0 (wrap64 (x1_1 + 1)) (wrap64 (x5_1 + 1))) else (some (-1))) = some r:=H
     have A5:=Am A50
     clear A50
     by_cases c6:(rdOf ByteArray.empty l0 x5_1).toList = t603.toList
     ·rw [if_pos c6] at H
      have c6b0:((rdOf ByteArray.empty l0 x5_1).toList == t603.toList) = true:=beq_iff_eq.mpr c6
      have c6b1:((rdOf ByteArray.empty l0 x5_1).toList != t603.toList) = false:=bne_eq_false_iff_eq.mpr c6
      clear c6
      have H':=Am H
      clear H
      try go_wp2
      have n0_:=Am (below_drew1 HB.out)
      clear HB
      have HB:=n0_
      clear n0_
      have p602:0 ≤ (x5_1:Int):=oD (by assumption)
      have q602:x5_1 < (l0.length:Int):=oD (by assumption)
      obtain ⟨ad602,e602,hx602_0⟩:=Kd.at_string HR0.out x5_1 p602 q602
      have hw602_0:=hx602_0
      cases e602
      replace hx602_0:=(HB.out.cell (World.block_lt_of_cell? w _ hx602_0)).trans hx602_0
      replace p602:=eq_true p602
      replace q602:=eq_true q602
      refine start_ (n:=7) (S:=fun w'=>w'.cell? (ad602.add (x5_1).toNat) = some (.string (rdOf ByteArray.empty l0 x5_1))) (ds:=[]) #[false,false,false,false,false,false,false] (by kernel_rfl) rfl rfl (((HB.out.cell (World.block_lt_of_cell? w _ hw602_0)).trans hw602_0)) (fun hHeld=>?_)
      generalize wr.drew = w7 at HB hx602_0 hHeld ⊢
      refine pure_ (i:=0) (N:=some 12) (v:=?_) (a':=?_) #[true,false,false,false,false,false,false] rfl rfl (by kernel_rfl) (fun _ _ _ h=>h) (Or.inl ⟨by rfl,?_⟩) ?_ ?_
      rotate_left
      ·intro w'
       go_simp
       with_reducible rfl
      rotate_left
      ·simp only [Act.put,List.setIfInBounds_toArray,List.set_cons_zero,List.set_cons_succ,i64_w,i32_w]
       rfl
      refine pure_ (i:=1) (N:=some 13) (v:=?_) (a':=?_) #[true,true,false,false,false,false,false] rfl rfl (by kernel_rfl) (fun _ _ _ h=>h) (Or.inl ⟨by rfl,?_⟩) ?_ ?_
      rotate_left
      ·intro w'
       go_simp
       with_reducible rfl
      rotate_left
      ·simp only [Act.put,List.setIfInBounds_toArray,List.set_cons_zero,List.set_cons_succ,i64_w,i32_w]
       rfl
      refine pure_ (i:=2) (N:=some 14) (v:=?_) (a':=?_) #[true,true,true,false,false,false,false] rfl rfl (by kernel_rfl) (fun _ _ _ h=>h) (Or.inl ⟨by rfl,?_⟩) ?_ ?_
      rotate_left
      ·intro w'
       go_simp
       with_reducible rfl
      rotate_left
      ·simp only [Act.put,List.setIfInBounds_toArray,List.set_cons_zero,List.set_cons_succ,i64_w,i32_w]
       rfl
      refine pure_ (i:=4) (N:=some 16) (v:=?_) (a':=?_) #[true,true,true,false,true,false,false] rfl rfl (by kernel_rfl) (fun _ _ _ h=>h) (Or.inl ⟨by rfl,?_⟩) ?_ ?_
      rotate_left
      ·intro w'
       go_simp
       with_reducible rfl
      rotate_left
      ·simp only [Act.put,List.setIfInBounds_toArray,List.set_cons_zero,List.set_cons_succ,i64_w,i32_w]
       rfl
      refine take_ (i:=3) (N:=some 15) (v:=?_) (a':=?_) #[true,true,true,true,true,false,false] rfl rfl (by kernel_rfl) (fun _ _ _ h=>h) (Or.inl ⟨by rfl,?_⟩) hHeld ?_ ?_
      rotate_left
      ·intro w' s0
       go_simp
       with_reducible rfl
      rotate_left
      ·simp only [Act.put,List.setIfInBounds_toArray,List.set_cons_zero,List.set_cons_succ,i64_w,i32_w]
       rfl
      refine one_ (i:=5) (N:=some 17) #[true,true,true,true,true,true,false] rfl rfl (by kernel_rfl) (by decide) (fun K hK=>?_)
      refine goes_ Tryd.func73 (by kernel_rfl) rfl #[.int .i64 x1_1] (by rfl) rfl rfl (by (try simp only [List.map_toArray,List.map_cons,List.map_nil]);first|done|rfl|(simp only [List.length_drop,List.length_take];rfl)) ?_
      with_reducible refine (laws_markText.calls k1 x1_1 t603 _ A5.out).mono ?_
      rintro e w8 ⟨rfl,hb⟩
      refine ⟨_,rfl,?_⟩
      have n0_:=Am (bT (by repeat (first|(with_reducible first|exact HB.out|apply bA|apply bN|apply bD)|exact HB.out)) hb)
      clear HB
      have HB:=n0_
      clear n0_
      (try clear hb)
      (try clear hb2)
      (try clear hk)
      (try clear hi)
      refine hK.out _ _ (((HB.out.cell (World.block_lt_of_cell? w _ hw602_0)).trans hw602_0)) (fun hHeld=>?_)
      clear hK K
      refine norm_ (a':=?_) ?_ ?_
      rotate_left
      ·show Act.put _ (some 17) _ = _
       simp only [Act.put,List.setIfInBounds_toArray,List.set_cons_zero,List.set_cons_succ,i64_w,i32_w]
       rfl
      refine pure_ (i:=6) (N:=some 18) (v:=?_) (a':=?_) #[true,true,true,true,true,true,true] rfl rfl (by kernel_rfl) (fun _ _ _ h=>h) (Or.inl ⟨by rfl,?_⟩) ?_ ?_
      rotate_left
      ·intro w'
       go_simp
       with_reducible rfl
      rotate_left
      ·simp only [Act.put,List.setIfInBounds_toArray,List.set_cons_zero,List.set_cons_succ,i64_w,i32_w]
       rfl
      refine done_ (by kernel_rfl) ?_
      try go_wp2
      go_roundg k1
      case measure=>have:=HK1.out;omega
      case rel=>exact ⟨(wrap64 (x1_1 + 1)),(wrap64 (x5_1 + 1)),(by first|rfl|(simp;done)|(simp only [i64_w,i32_w] <;> rfl)|(simp [*];done)|(simp [emp_bne,emp_beq];done)),(by first|rfl|(simp;done)|(simp only [i64_w,i32_w] <;> rfl)|(simp [*];done)|(simp [emp_bne,emp_beq];done)),H',⟨by have:=HK1.out;omega⟩,⟨by repeat (first|(with_reducible first|exact HB.out|apply bA|apply bN|apply bD)|exact HB.out)⟩⟩
     ·rw [if_neg c6] at H
      have c6b0:((rdOf ByteArray.empty l0 x5_1).toList == t603.toList) = false:=beq_eq_false_iff_ne.mpr c6
      have c6b1:((rdOf ByteArray.empty l0 x5_1).toList != t603.toList) = true:=bne_iff_ne.mpr c6
      obtain rfl:=Option.some.inj H
      try go_wp2
      have n0_:=Am (below_drew1 HB.out)
      clear HB
      have HB:=n0_
      clear n0_
      have p602:0 ≤ (x5_1:Int):=oD (by assumption)
      have q602:x5_1 < (l0.length:Int):=oD (by assumption)
      obtain ⟨ad602,e602,hx602_0⟩:=Kd.at_string HR0.out x5_1 p602 q602
      have hw602_0:=hx602_0
      cases e602
      replace hx602_0:=(HB.out.cell (World.block_lt_of_cell? w _ hx602_0)).trans hx602_0
      replace p602:=eq_true p602
      replace q602:=eq_true q602
      refine start_ (n:=7) (S:=fun w'=>w'.cell? (ad602.add (x5_1).toNat) = some (.string (rdOf ByteArray.empty l0 x5_1))) (ds:=[]) #[false,false,false,false,false,false,false] (by kernel_rfl) rfl rfl (((HB.out.cell (World.block_lt_of_cell? w _ hw602_0)).trans hw602_0)) (fun hHeld=>?_)
      generalize wr.drew = w9 at HB hx602_0 hHeld ⊢
      refine pure_ (i:=0) (N:=some 12) (v:=?_) (a':=?_) #[true,false,false,false,false,false,false] rfl rfl (by kernel_rfl) (fun _ _ _ h=>h) (Or.inl ⟨by rfl,?_⟩) ?_ ?_
      rotate_left
      ·intro w'
       go_simp
       with_reducible rfl
      rotate_left
      ·simp only [Act.put,List.setIfInBounds_toArray,List.set_cons_zero,List.set_cons_succ,i64_w,i32_w]
       rfl
      refine pure_ (i:=1) (N:=some 13) (v:=?_) (a':=?_) #[true,true,false,false,false,false,false] rfl rfl (by kernel_rfl) (fun _ _ _ h=>h) (Or.inl ⟨by rfl,?_⟩) ?_ ?_
      rotate_left
      ·intro w'
       go_simp
       with_reducible rfl
      rotate_left
      ·simp only [Act.put,List.setIfInBounds_toArray,List.set_cons_zero,List.set_cons_succ,i64_w,i32_w]
       rfl
      refine pure_ (i:=2) (N:=some 14) (v:=?_) (a':=?_) #[true,true,true,false,false,false,false] rfl rfl (by kernel_rfl) (fun _ _ _ h=>h) (Or.inl ⟨by rfl,?_⟩) ?_ ?_
      rotate_left
      ·intro w'
       go_simp
       with_reducible rfl
      rotate_left
      ·simp only [Act.put,List.setIfInBounds_toArray,List.set_cons_zero,List.set_cons_succ,i64_w,i32_w]
       rfl
      refine pure_ (i:=4) (N:=some 16) (v:=?_) (a':=?_) #[true,true,true,false,true,false,false] rfl rfl (by kernel_rfl) (fun _ _ _ h=>h) (Or.inl ⟨by rfl,?_⟩) ?_ ?_
      rotate_left
      ·intro w'
       go_simp
       with_reducible rfl
      rotate_left
      ·simp only [Act.put,List.setIfInBounds_toArray,List.set_cons_zero,List.set_cons_succ,i64_w,i32_w]
       rfl
      refine take_ (i:=3) (N:=some 15) (v:=?_) (a':=?_) #[true,true,true,true,true,false,false] rfl rfl (by kernel_rfl) (fun _ _ _ h=>h) (Or.inl ⟨by rfl,?_⟩) hHeld ?_ ?_
      rotate_left
      ·intro w' s0
       go_simp
       with_reducible rfl
      rotate_left
      ·simp only [Act.put,List.setIfInBounds_toArray,List.set_cons_zero,List.set_cons_succ,i64_w,i32_w]
       rfl
      refine one_ (i:=5) (N:=some 17) #[true,true,true,true,true,true,false] rfl rfl (by kernel_rfl) (by decide) (fun K hK=>?_)
      refine goes_ Tryd.func73 (by kernel_rfl) rfl #[.int .i64 x1_1] (by rfl) rfl rfl (by (try simp only [List.map_toArray,List.map_cons,List.map_nil]);first|done|rfl|(simp only [List.length_drop,List.length_take];rfl)) ?_
      with_reducible refine (laws_markText.calls k1 x1_1 t603 _ A5.out).mono ?_
      rintro e w10 ⟨rfl,hb⟩
      refine ⟨_,rfl,?_⟩
      have n0_:=Am (bT (by repeat (first|(with_reducible first|exact HB.out|apply bA|apply bN|apply bD)|exact HB.out)) hb)
      clear HB
      have HB:=n0_
      clear n0_
      (try clear hb)
      (try clear hb2)
      (try clear hk)
      (try clear hi)
      refine hK.out _ _ (((HB.out.cell (World.block_lt_of_cell? w _ hw602_0)).trans hw602_0)) (fun hHeld=>?_)
      clear hK K
      refine norm_ (a':=?_) ?_ ?_
      rotate_left
      ·show Act.put _ (some 17) _ = _
       simp only [Act.put,List.setIfInBounds_toArray,List.set_cons_zero,List.set_cons_succ,i64_w,i32_w]
       rfl
      refine pure_ (i:=6) (N:=some 18) (v:=?_) (a':=?_) #[true,true,true,true,true,true,true] rfl rfl (by kernel_rfl) (fun _ _ _ h=>h) (Or.inl ⟨by rfl,?_⟩) ?_ ?_
      rotate_left
      ·intro w'
       go_simp
       with_reducible rfl
      rotate_left
      ·simp only [Act.put,List.setIfInBounds_toArray,List.set_cons_zero,List.set_cons_succ,i64_w,i32_w]
       rfl
      refine done_ (by kernel_rfl) ?_
      try go_wp2
      go_ret
      exact ⟨by first|rfl|(simp <;> rfl)|(simp [*] <;> rfl),by repeat (first|(with_reducible first|exact HB.out|apply bA|apply bN|apply bD)|exact HB.out)⟩
    ·rw [if_neg c4] at H
     exact absurd H (by simp)
   ·rw [if_neg c3] at H
    have c3b0:decide (x5_1 < (l0.length:Int)) = false:=decide_eq_false c3
    clear c3
    obtain rfl:=Option.some.inj H
    go_wp2
    go_ret
    exact ⟨by first|rfl|(simp <;> rfl)|(simp [*] <;> rfl),by repeat (first|(with_reducible first|exact HB.out|apply bA|apply bN|apply bD)|exact HB.out)⟩

/-! ### laws_heldAddr: function 23 -/
def laws_heldAddr.f (k:Nat) (a0_0:ByteArray) (l0_1:List ByteArray) (a0_2:Bool) (a0_3:ByteArray) (a1:Int):Option (Int):=(laws_heldStringS.f k l0_1 a1).bind fun t605=>(if t605 < 0 then (some (-1)) else (some t605))
theorem laws_heldAddr.mono:∀ a0 a1 a2 a3 a4 k,LeO (laws_heldAddr.f k a0 a1 a2 a3 a4) (laws_heldAddr.f (k + 1) a0 a1 a2 a3 a4):=by
 intro a0 a1 a2 a3 a4 k
 unfold laws_heldAddr.f
 repeat' first
   | (with_reducible apply laws_heldStringS.mono)
   | (with_reducible exact LeO.refl _)
   | (with_reducible exact LeO.none _)
   | (with_reducible refine LeO.ite ?_ ?_)
   | (with_reducible refine LeO.bind ?_ (fun _=>?_))
   | exact laws_heldStringS.mono _ _ _
   | exact LeO.none _
   | refine LeO.ite ?_ ?_
   | refine LeO.bind ?_ (fun _=>?_)
theorem laws_heldAddr.calls (k:Nat) (a0_0:ByteArray) (A0_1:Option Addr) (c0_1:Nat) (l0_1:List ByteArray) (a0_2:Bool) (a0_3:ByteArray) (a1:Int) (r:Int) (w:World) (hr0_1:Kd.C Kd.string w A0_1 l0_1.length l0_1) (hc0_1:l0_1.length ≤ c0_1) (h:laws_heldAddr.f k a0_0 l0_1 a0_2 a0_3 a1 = some r) :
  Calls Tryd.prog 23 #[.agg #[.string a0_0, .slice A0_1 l0_1.length c0_1, .bool a0_2, .string a0_3], .int .i64 a1] w fun e w'=>e = .returned (.int .i64 r) ∧ Below w.heap.size w w':=by
 have hu25:=Tryd.underlying25
 have HR0_1:=Am hr0_1
 have HC0_1:=Am hc0_1
 clear hr0_1 hc0_1
 have HB:=Am (Below.refl w.heap.size w)
 have H:((laws_heldStringS.f k l0_1 a1).bind fun t605=>(if t605 < 0 then (some (-1)) else (some t605))) = some r:=h
 clear h
 replace H:=bI H
 obtain ⟨t605,A30,H⟩:=H
 replace H:(if t605 < 0 then (some (-1)) else (some t605)) = some r:=H
 have A3:=Am A30
 clear A30
 by_cases c4:t605 < 0
 ·rw [if_pos c4] at H
  have c4b0:decide (t605 < 0) = true:=decide_eq_true c4
  clear c4
  obtain rfl:=Option.some.inj H
  go_enter Tryd.func23,Tryd.ntmps23
  go_wp2_with (first|((with_reducible refine gate_dst (N:=2) rfl ?_);refine box_event ?hg (N:=2) ?hd (cs:=#[.string a0_0, .slice A0_1 l0_1.length c0_1, .bool a0_2, .string a0_3]) (t:=25) ?hr ?_;(case hd=>rfl);(case hg=>rfl);(case hr=>(go_simp <;> rfl));intro gb604 hg w5 hbox hb;have n0_:=Am (bT (by repeat (first|(with_reducible first|exact HB.out|apply bA|apply bN|apply bD)|exact HB.out)) hb);have n1_:=Am (hbox);have n2_:=Am ((by rw [hg];exact (bU (by repeat (first|(with_reducible first|exact HB.out|apply bA|apply bN|apply bD)|exact HB.out))):w.heap.size ≤ gb604));have n3_:=n2_;clear HB;have HB:=n0_;have BK604:=n1_;have GW604:=n2_;have GE604:=n3_;clear n0_ n1_ n2_ n3_ hb hbox hg;have hcz6_0:w5.cell? ⟨gb604,0,none⟩ = some (.string a0_0):=bM BK604.out 0 rfl;have hcz6_1:w5.cell? ⟨gb604,1,none⟩ = some (.slice A0_1 l0_1.length c0_1):=bM BK604.out 1 rfl;have hcz6_2:w5.cell? ⟨gb604,2,none⟩ = some (.bool a0_2):=bM BK604.out 2 rfl;have hcz6_3:w5.cell? ⟨gb604,3,none⟩ = some (.string a0_3):=bM BK604.out 3 rfl;have hfz6_0:=bZ BK604.out 0;have hfz6_1:=bZ BK604.out 1;have hfz6_2:=bZ BK604.out 2;have hfz6_3:=bZ BK604.out 3)|((with_reducible refine gate_callee (f:=51) rfl ?_);refine goesL_ (some 8) rfl rfl Tryd.func51 (by kernel_rfl) rfl #[.slice A0_1 l0_1.length c0_1, .int .i64 a1] rfl (aE2 rfl rfl) ?_;(with_reducible refine (laws_heldStringS.calls k _ _ l0_1 a1 t605 _ ?side1 ?side2 A3.out).mono ?_);(case side1=>repeat (first|exact (Kd.C_below HR0_1.out HB.out)|(with_reducible refine bC ?_)));(case side2=>exact HC0_1.out);rintro e w7 ⟨rfl,hb⟩;refine ⟨_,rfl,?_⟩;have n0_:=Am (blk_below (bB BK604.out) hb);have n1_:=Am (bT (by repeat (first|(with_reducible first|exact HB.out|apply bA|apply bN|apply bD|refine bS ?_ GE604.out)|exact HB.out)) hb);clear BK604 HB;have BK604:=n0_;have HB:=n1_;clear n0_ n1_;(try clear hb)))
  go_ret
  exact ⟨by first|rfl|(simp <;> rfl)|(simp [*] <;> rfl),by repeat (first|(with_reducible first|exact HB.out|apply bA|apply bN|apply bD|refine bS ?_ GE604.out)|exact HB.out)⟩
 ·rw [if_neg c4] at H
  have c4b0:decide (t605 < 0) = false:=decide_eq_false c4
  clear c4
  obtain rfl:=Option.some.inj H
  go_enter Tryd.func23,Tryd.ntmps23
  go_wp2_with (first|((with_reducible refine gate_dst (N:=2) rfl ?_);refine box_event ?hg (N:=2) ?hd (cs:=#[.string a0_0, .slice A0_1 l0_1.length c0_1, .bool a0_2, .string a0_3]) (t:=25) ?hr ?_;(case hd=>rfl);(case hg=>rfl);(case hr=>(go_simp <;> rfl));intro gb604 hg w8 hbox hb;have n0_:=Am (bT (by repeat (first|(with_reducible first|exact HB.out|apply bA|apply bN|apply bD)|exact HB.out)) hb);have n1_:=Am (hbox);have n2_:=Am ((by rw [hg];exact (bU (by repeat (first|(with_reducible first|exact HB.out|apply bA|apply bN|apply bD)|exact HB.out))):w.heap.size ≤ gb604));have n3_:=n2_;clear HB;have HB:=n0_;have BK604:=n1_;have GW604:=n2_;have GE604:=n3_;clear n0_ n1_ n2_ n3_ hb hbox hg;have hcz9_0:w8.cell? ⟨gb604,0,none⟩ = some (.string a0_0):=bM BK604.out 0 rfl;have hcz9_1:w8.cell? ⟨gb604,1,none⟩ = some (.slice A0_1 l0_1.length c0_1):=bM BK604.out 1 rfl;have hcz9_2:w8.cell? ⟨gb604,2,none⟩ = some (.bool a0_2):=bM BK604.out 2 rfl;have hcz9_3:w8.cell? ⟨gb604,3,none⟩ = some (.string a0_3):=bM BK604.out 3 rfl;have hfz9_0:=bZ BK604.out 0;have hfz9_1:=bZ BK604.out 1;have hfz9_2:=bZ BK604.out 2;have hfz9_3:=bZ BK604.out 3)|((with_reducible refine gate_callee (f:=51) rfl ?_);refine goesL_ (some 8) rfl rfl Tryd.func51 (by kernel_rfl) rfl #[.slice A0_1 l0_1.length c0_1, .int .i64 a1] rfl (aE2 rfl rfl) ?_;(with_reducible refine (laws_heldStringS.calls k _ _ l0_1 a1 t605 _ ?side1 ?side2 A3.out).mono ?_);(case side1=>repeat (first|exact (Kd.C_below HR0_1.out HB.out)|(with_reducible refine bC ?_)));(case side2=>exact HC0_1.out);rintro e w10 ⟨rfl,hb⟩;refine ⟨_,rfl,?_⟩;have n0_:=Am (blk_below (bB BK604.out) hb);have n1_:=Am (bT (by repeat (first|(with_reducible first|exact HB.out|apply bA|apply bN|apply bD|refine bS ?_ GE604.out)|exact HB.out)) hb);clear BK604 HB;have BK604:=n0_;have HB:=n1_;clear n0_ n1_;(try clear hb)))
  go_ret
  exact ⟨by first|rfl|(simp <;> rfl)|(simp [*] <;> rfl),by repeat (first|(with_reducible first|exact HB.out|apply bA|apply bN|apply bD|refine bS ?_ GE604.out)|exact HB.out)⟩

end Go.Proofs.YtbnnamjaljohiaaDoor.P
