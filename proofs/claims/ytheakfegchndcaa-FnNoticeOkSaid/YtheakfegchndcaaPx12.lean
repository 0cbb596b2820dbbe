-- Written by a program of this session (patch_print.py over the kit's print; given texts in wip/given).
-- Cut down by a program of this session (wip/tools/prune.py) to what its claim can name.
import Derived.Test.YtheakfegchndcaaPx0
import Derived.Test.YtheakfegchndcaaPx11
namespace Go.Proofs.Ytheakfegchndcaa.P
open Go.RowKit Go.Proofs.YtheakfegchndcaaW.PrintWords Go.Proofs.YtheakfegchndcaaW.PrintLast Go.Proofs.YtheakfegchndcaaW.PrintMore
attribute [local go_sem] max2_int min2_int max_two min_two max_three min_three max_four min_four   -- for this text's walks alone
set_option linter.unusedVariables false
set_option linter.unusedSimpArgs false
set_option maxHeartbeats 8000000
set_option maxRecDepth 100000

/-! ### spec_l2Name: function 39 -/
def spec_l2Name.l0:Nat → ByteArray → Int → Option (Bool)
 | 0,_,_=>none
 | k + 1,x0,x3=>if x3 < (x0.size:Int) then (if 0 ≤ x3 then (if (bt x0 x3) < 97 then (some false) else (if (bt x0 x3) > 122 then (some false) else (spec_l2Name.l0 k x0 (wrap64 (x3 + 1))))) else (none)) else ((spec_l6In.f (x0.size:Int) 1 8).bind fun t255=>(some t255))
def spec_l2Name.f (k:Nat) (a0:ByteArray):Option (Bool):=spec_l2Name.l0 k a0 0
theorem spec_l2Name.mono_l:∀ k,(∀ y0 y1,LeO (spec_l2Name.l0 k y0 y1) (spec_l2Name.l0 (k + 1) y0 y1))
 | 0=>fun _ _ r h=>by simp [spec_l2Name.l0] at h
 | k + 1=>by
  have ih0:=spec_l2Name.mono_l k
  ·intro y0 y1
   unfold spec_l2Name.l0
   repeat' first
   | (with_reducible exact ih0 _ _)
   | (with_reducible exact LeO.refl _)
   | (with_reducible exact LeO.none _)
   | (with_reducible refine LeO.ite ?_ ?_)
   | (with_reducible refine LeO.bind ?_ (fun _=>?_))
   | exact ih0 _ _
   | exact LeO.none _
   | refine LeO.ite ?_ ?_
   | refine LeO.bind ?_ (fun _=>?_)
theorem spec_l2Name.mono:∀ a0 k,LeO (spec_l2Name.f k a0) (spec_l2Name.f (k + 1) a0):=by
 intro a0 k
 have ih0:=spec_l2Name.mono_l k
 unfold spec_l2Name.f
 repeat' first
   | (with_reducible exact ih0 _ _)
   | (with_reducible exact LeO.refl _)
   | (with_reducible exact LeO.none _)
   | (with_reducible refine LeO.ite ?_ ?_)
   | (with_reducible refine LeO.bind ?_ (fun _=>?_))
   | exact ih0 _ _
   | exact LeO.none _
   | refine LeO.ite ?_ ?_
   | refine LeO.bind ?_ (fun _=>?_)
theorem spec_l2Name.calls (k:Nat) (a0:ByteArray) (r:Bool) (w:World) (h:spec_l2Name.f k a0 = some r) :
  Calls Try.prog 39 #[.string a0] w fun e w'=>e = .returned (.bool r) ∧ Drawn0 w w':=by
 have H:(spec_l2Name.l0 k a0 0) = some r:=h
 clear h
 have H':=Aside0.mk H
 clear H
 go_enter Try.func39,Try.ntmps39
 go_wp2
 go_loopg [3] k (fun kq v3 w'=>∃ (x3_1:Int),v3 = .int .i64 x3_1 ∧ Aside0 (spec_l2Name.l0 kq a0 x3_1 = some r) ∧ Aside0 (kq ≤ k) ∧ Drawn0 w w')
 case atStart=>exact ⟨(0),(by first|rfl|(simp;done)|(simp only [i64_w,i32_w];done)|(simp only [i64_w,i32_w];rfl)|(simp [*];done)|(simp [emp_bne,emp_beq];done)),H',⟨Nat.le_refl _⟩,by repeat (first|exact Drawn0.refl _|apply Drawn0.step)⟩
 case round =>
  clear H'
  obtain ⟨x3_1,rfl,HA,HK1,⟨m1,rfl⟩⟩:=hrel
  cases gk with
  | zero=>exact absurd HA.out (by simp [spec_l2Name.l0])
  | succ k1 =>
   have H:=HA.out
   clear HA
   simp only [spec_l2Name.l0] at H
   by_cases c2:x3_1 < (a0.size:Int)
   ·rw [if_pos c2] at H
    have c2b0:decide (x3_1 < (a0.size:Int)) = true:=decide_eq_true c2
    clear c2
    by_cases c3:0 ≤ x3_1
    ·rw [if_pos c3] at H
     have c3b0:decide (0 ≤ x3_1) = true:=decide_eq_true c3
     clear c3
     by_cases c5:(bt a0 x3_1) < 97
     ·rw [if_pos c5] at H
      have c5b0:decide ((bt a0 x3_1) < 97) = true:=decide_eq_true c5
      clear c5
      obtain rfl:=Option.some.inj H
      have p4:0 ≤ (x3_1:Int):=of_decide_eq_true (by first|(with_reducible assumption)|assumption)
      have q4:x3_1 < (a0.size:Int):=of_decide_eq_true (by first|(with_reducible assumption)|assumption)
      have hx4:=bt_at a0 x3_1
      replace p4:=eq_true p4
      replace q4:=eq_true q4
      go_wp2
      go_ret
      exact ⟨by first|rfl|(simp;done)|(simp only [i64_w,i32_w];done)|(simp only [i64_w,i32_w];rfl)|(simp [*];done)|(simp [emp_bne,emp_beq];done),by repeat (first|exact Drawn0.refl _|apply Drawn0.step)⟩
     ·rw [if_neg c5] at H
      have c5b0:decide ((bt a0 x3_1) < 97) = false:=decide_eq_false c5
      clear c5
      by_cases c7:(bt a0 x3_1) > 122
      ·rw [if_pos c7] at H
       have c7b0:decide (122 < (bt a0 x3_1)) = true:=decide_eq_true c7
       clear c7
       obtain rfl:=Option.some.inj H
       have p4:0 ≤ (x3_1:Int):=of_decide_eq_true (by first|(with_reducible assumption)|assumption)
       have q4:x3_1 < (a0.size:Int):=of_decide_eq_true (by first|(with_reducible assumption)|assumption)
       have hx4:=bt_at a0 x3_1
       replace p4:=eq_true p4
       replace q4:=eq_true q4
       have p6:0 ≤ (x3_1:Int):=of_decide_eq_true (by first|(with_reducible assumption)|assumption)
       have q6:x3_1 < (a0.size:Int):=of_decide_eq_true (by first|(with_reducible assumption)|assumption)
       have hx6:=bt_at a0 x3_1
       replace p6:=eq_true p6
       replace q6:=eq_true q6
       go_wp2
       go_ret
       exact ⟨by first|rfl|(simp;done)|(simp only [i64_w,i32_w];done)|(simp only [i64_w,i32_w];rfl)|(simp [*];done)|(simp [emp_bne,emp_beq];done),by repeat (first|exact Drawn0.refl _|apply Drawn0.step)⟩
      ·rw [if_neg c7] at H
       have c7b0:decide (122 < (bt a0 x3_1)) = false:=decide_eq_false c7
       clear c7
       have H':=Aside0.mk H
       clear H
       have p4:0 ≤ (x3_1:Int):=of_decide_eq_true (by first|(with_reducible assumption)|assumption)
       have q4:x3_1 < (a0.size:Int):=of_decide_eq_true (by first|(with_reducible assumption)|assumption)
       have hx4:=bt_at a0 x3_1
       replace p4:=eq_true p4
       replace q4:=eq_true q4
       have p6:0 ≤ (x3_1:Int):=of_decide_eq_true (by first|(with_reducible assumption)|assumption)
       have q6:x3_1 < (a0.size:Int):=of_decide_eq_true (by first|(with_reducible assumption)|assumption)
       have hx6:=bt_at a0 x3_1
       replace p6:=eq_true p6
       replace q6:=eq_true q6
       go_wp2
       go_roundg k1
       case measure=>have:=HK1.out;omega
       case rel=>exact ⟨(wrap64 (x3_1 + 1)),(by first|rfl|(simp;done)|(simp only [i64_w,i32_w];done)|(simp only [i64_w,i32_w];rfl)|(simp [*];done)|(simp [emp_bne,emp_beq];done)),H',⟨by have:=HK1.out;omega⟩,by repeat (first|exact Drawn0.refl _|apply Drawn0.step)⟩
    ·rw [if_neg c3] at H
     exact absurd H (by simp)
   ·rw [if_neg c2] at H
    have c2b0:decide (x3_1 < (a0.size:Int)) = false:=decide_eq_false c2
    clear c2
    replace H:=Option.bind_eq_some_iff.mp H
    obtain ⟨t255,A80,H⟩:=H
    replace H:(some t255) = some r:=H
    have A8:=Aside0.mk A80
    clear A80
    obtain rfl:=Option.some.inj H
    go_wp2_with (first|((with_reducible refine gate_callee (f:=38) rfl ?_);refine goesL_ (some 22) rfl rfl Try.func38 (by kernel_rfl) rfl #[.int .i64 (a0.size:Int), .int .i64 1, .int .i64 8] rfl (by (try simp only [List.map_toArray,List.map_cons,List.map_nil]);first|done|rfl|(simp only [List.length_drop,List.length_take];rfl)) ?_;(with_reducible refine (spec_l6In.calls (a0.size:Int) 1 8 t255 _ A8.out).mono ?_);rintro e w' ⟨rfl,⟨nd,rfl⟩⟩;refine ⟨_,rfl,?_⟩))
    go_ret
    exact ⟨by first|rfl|(simp;done)|(simp only [i64_w,i32_w];done)|(simp only [i64_w,i32_w];rfl)|(simp [*];done)|(simp [emp_bne,emp_beq];done),by repeat (first|exact Drawn0.refl _|apply Drawn0.step)⟩

/-! ### spec_l1Plain: function 55 -/
def spec_l1Plain.f (a0:Int):Option (Bool):=if a0 ≥ 97 then (if a0 ≤ 122 then (some true) else (if a0 ≥ 48 then (if a0 ≤ 57 then (some true) else (if a0 = 46 then (some true) else (some (a0 == 45)))) else (if a0 = 46 then (some true) else (some (a0 == 45))))) else (if a0 ≥ 48 then (if a0 ≤ 57 then (some true) else (if a0 = 46 then (some true) else (some (a0 == 45)))) else (if a0 = 46 then (some true) else (some (a0 == 45))))
theorem spec_l1Plain.calls (a0:Int) (r:Bool) (w:World) (h:spec_l1Plain.f a0 = some r) :
  Calls Try.prog 55 #[.int .u8 a0] w fun e w'=>e = .returned (.bool r) ∧ Drawn0 w w':=by
 have H:(if a0 ≥ 97 then (if a0 ≤ 122 then (some true) else (if a0 ≥ 48 then (if a0 ≤ 57 then (some true) else (if a0 = 46 then (some true) else (some (a0 == 45)))) else (if a0 = 46 then (some true) else (some (a0 == 45))))) else (if a0 ≥ 48 then (if a0 ≤ 57 then (some true) else (if a0 = 46 then (some true) else (some (a0 == 45)))) else (if a0 = 46 then (some true) else (some (a0 == 45))))) = some r:=h
 clear h
 by_cases c2:a0 ≥ 97
 ·rw [if_pos c2] at H
  have c2b0:decide (97 ≤ a0) = true:=decide_eq_true c2
  clear c2
  by_cases c3:a0 ≤ 122
  ·rw [if_pos c3] at H
   have c3b0:decide (a0 ≤ 122) = true:=decide_eq_true c3
   clear c3
   obtain rfl:=Option.some.inj H
   go_enter Try.func55,Try.ntmps55
   go_wp2
   go_ret
   exact ⟨by first|rfl|(simp;done)|(simp only [i64_w,i32_w];done)|(simp only [i64_w,i32_w];rfl)|(simp [*];done)|(simp [emp_bne,emp_beq];done),by repeat (first|exact Drawn0.refl _|apply Drawn0.step)⟩
  ·rw [if_neg c3] at H
   have c3b0:decide (a0 ≤ 122) = false:=decide_eq_false c3
   clear c3
   by_cases c4:a0 ≥ 48
   ·rw [if_pos c4] at H
    have c4b0:decide (48 ≤ a0) = true:=decide_eq_true c4
    clear c4
    by_cases c5:a0 ≤ 57
    ·rw [if_pos c5] at H
     have c5b0:decide (a0 ≤ 57) = true:=decide_eq_true c5
     clear c5
     obtain rfl:=Option.some.inj H
     go_enter Try.func55,Try.ntmps55
     go_wp2
     go_ret
     exact ⟨by first|rfl|(simp;done)|(simp only [i64_w,i32_w];done)|(simp only [i64_w,i32_w];rfl)|(simp [*];done)|(simp [emp_bne,emp_beq];done),by repeat (first|exact Drawn0.refl _|apply Drawn0.step)⟩
    ·rw [if_neg c5] at H
     have c5b0:decide (a0 ≤ 57) = false:=decide_eq_false c5
     clear c5
     by_cases c6:a0 = 46
     ·rw [if_pos c6] at H
      have c6b0:(a0 == 46) = true:=beq_iff_eq.mpr c6
      have c6b1:(a0 != 46) = false:=bne_eq_false_iff_eq.mpr c6
      clear c6
      obtain rfl:=Option.some.inj H
      go_enter Try.func55,Try.ntmps55
      go_wp2
      go_ret
      exact ⟨by first|rfl|(simp;done)|(simp only [i64_w,i32_w];done)|(simp only [i64_w,i32_w];rfl)|(simp [*];done)|(simp [emp_bne,emp_beq];done),by repeat (first|exact Drawn0.refl _|apply Drawn0.step)⟩
     ·rw [if_neg c6] at H
      have c6b0:(a0 == 46) = false:=beq_eq_false_iff_ne.mpr c6
      have c6b1:(a0 != 46) = true:=bne_iff_ne.mpr c6
      obtain rfl:=Option.some.inj H
      go_enter Try.func55,Try.ntmps55
      go_wp2
      go_ret
      exact ⟨by first|rfl|(simp;done)|(simp only [i64_w,i32_w];done)|(simp only [i64_w,i32_w];rfl)|(simp [*];done)|(simp [emp_bne,emp_beq];done),by repeat (first|exact Drawn0.refl _|apply Drawn0.step)⟩
   ·rw [if_neg c4] at H
    have c4b0:decide (48 ≤ a0) = false:=decide_eq_false c4
    clear c4
    by_cases c7:a0 = 46
    ·rw [if_pos c7] at H
     have c7b0:(a0 == 46) = true:=beq_iff_eq.mpr c7
     have c7b1:(a0 != 46) = false:=bne_eq_false_iff_eq.mpr c7
     clear c7
     obtain rfl:=Option.some.inj H
     go_enter Try.func55,Try.ntmps55
     go_wp2
     go_ret
     exact ⟨by first|rfl|(simp;done)|(simp only [i64_w,i32_w];done)|(simp only [i64_w,i32_w];rfl)|(simp [*];done)|(simp [emp_bne,emp_beq];done),by repeat (first|exact Drawn0.refl _|apply Drawn0.step)⟩
    ·rw [if_neg c7] at H
     have c7b0:(a0 == 46) = false:=beq_eq_false_iff_ne.mpr c7
     have c7b1:(a0 != 46) = true:=bne_iff_ne.mpr c7
     obtain rfl:=Option.some.inj H
     go_enter Try.func55,Try.ntmps55
     go_wp2
     go_ret
     exact ⟨by first|rfl|(simp;done)|(simp only [i64_w,i32_w];done)|(simp only [i64_w,i32_w];rfl)|(simp [*];done)|(simp [emp_bne,emp_beq];done),by repeat (first|exact Drawn0.refl _|apply Drawn0.step)⟩
 ·rw [if_neg c2] at H
  have c2b0:decide (97 ≤ a0) = false:=decide_eq_false c2
  clear c2
  by_cases c8:a0 ≥ 48
  ·rw [if_pos c8] at H
   have c8b0:decide (48 ≤ a0) = true:=decide_eq_true c8
   clear c8
   by_cases c9:a0 ≤ 57
   ·rw [if_pos c9] at H
    have c9b0:decide (a0 ≤ 57) = true:=decide_eq_true c9
    clear c9
    obtain rfl:=Option.some.inj H
    go_enter Try.func55,Try.ntmps55
    go_wp2
    go_ret
    exact ⟨by first|rfl|(simp;done)|(simp only [i64_w,i32_w];done)|(simp only [i64_w,i32_w];rfl)|(simp [*];done)|(simp [emp_bne,emp_beq];done),by repeat (first|exact Drawn0.refl _|apply Drawn0.step)⟩
   ·rw [if_neg c9] at H
    have c9b0:decide (a0 ≤ 57) = false:=decide_eq_false c9
    clear c9
    by_cases c10:a0 = 46
    ·rw [if_pos c10] at H
     have c10b0:(a0 == 46) = true:=beq_iff_eq.mpr c10
     have c10b1:(a0 != 46) = false:=bne_eq_false_iff_eq.mpr c10
     clear c10
     obtain rfl:=Option.some.inj H
     go_enter Try.func55,Try.ntmps55
     go_wp2
     go_ret
     exact ⟨by first|rfl|(simp;done)|(simp only [i64_w,i32_w];done)|(simp only [i64_w,i32_w];rfl)|(simp [*];done)|(simp [emp_bne,emp_beq];done),by repeat (first|exact Drawn0.refl _|apply Drawn0.step)⟩
    ·rw [if_neg c10] at H
     have c10b0:(a0 == 46) = false:=beq_eq_false_iff_ne.mpr c10
     have c10b1:(a0 != 46) = true:=bne_iff_ne.mpr c10
     obtain rfl:=Option.some.inj H
     go_enter Try.func55,Try.ntmps55
     go_wp2
     go_ret
     exact ⟨by first|rfl|(simp;done)|(simp only [i64_w,i32_w];done)|(simp only [i64_w,i32_w];rfl)|(simp [*];done)|(simp [emp_bne,emp_beq];done),by repeat (first|exact Drawn0.refl _|apply Drawn0.step)⟩
  ·rw [if_neg c8] at H
   have c8b0:decide (48 ≤ a0) = false:=decide_eq_false c8
   clear c8
   by_cases c11:a0 = 46
   ·rw [if_pos c11] at H
    have c11b0:(a0 == 46) = true:=beq_iff_eq.mpr c11
    have c11b1:(a0 != 46) = false:=bne_eq_false_iff_eq.mpr c11
    clear c11
    obtain rfl:=Option.some.inj H
    go_enter Try.func55,Try.ntmps55
    go_wp2
    go_ret
    exact ⟨by first|rfl|(simp;done)|(simp only [i64_w,i32_w];done)|(simp only [i64_w,i32_w];rfl)|(simp [*];done)|(simp [emp_bne,emp_beq];done),by repeat (first|exact Drawn0.refl _|apply Drawn0.step)⟩
   ·rw [if_neg c11] at H
    have c11b0:(a0 == 46) = false:=beq_eq_false_iff_ne.mpr c11
    have c11b1:(a0 != 46) = true:=bne_iff_ne.mpr c11
    obtain rfl:=Option.some.inj H
    go_enter Try.func55,Try.ntmps55
    go_wp2
    go_ret
    exact ⟨by first|rfl|(simp;done)|(simp only [i64_w,i32_w];done)|(simp only [i64_w,i32_w];rfl)|(simp [*];done)|(simp [emp_bne,emp_beq];done),by repeat (first|exact Drawn0.refl _|apply Drawn0.step)⟩

/-! ### spec_RuleOk: function 40 -/
mutual
def spec_RuleOk.j0:Nat → ByteArray → Bool → Option (Bool)
 | 0,_,_=>none
 | k + 1,x0,x16=>if x16 = true then (some false) else (spec_RuleOk.l0 k x0 0)
def spec_RuleOk.l0:Nat → ByteArray → Int → Option (Bool)
 | 0,_,_=>none
 | k + 1,x0,x3=>if x3 < (x0.size:Int) then (if 0 ≤ x3 then ((spec_l1Plain.f (bt x0 x3)).bind fun t256=>(if t256 = true then (spec_RuleOk.l0 k x0 (wrap64 (x3 + 1))) else (if (bt x0 x3) = 47 then (spec_RuleOk.l0 k x0 (wrap64 (x3 + 1))) else (if (bt x0 x3) = 42 then (spec_RuleOk.l0 k x0 (wrap64 (x3 + 1))) else (if (bt x0 x3) = 63 then (spec_RuleOk.l0 k x0 (wrap64 (x3 + 1))) else (if (bt x0 x3) = 37 then (spec_RuleOk.l0 k x0 (wrap64 (x3 + 1))) else (if (bt x0 x3) ≥ 65 then (if ((bt x0 x3) ≤ 70) then (spec_RuleOk.l0 k x0 (wrap64 (x3 + 1))) else (if (bt x0 x3) = 36 then (if (x3 = (wrap64 ((x0.size:Int) - 1))) then (spec_RuleOk.l0 k x0 (wrap64 (x3 + 1))) else (some false)) else (some false))) else (if (bt x0 x3) = 36 then (if (x3 = (wrap64 ((x0.size:Int) - 1))) then (spec_RuleOk.l0 k x0 (wrap64 (x3 + 1))) else (some false)) else (some false))))))))) else (none)) else (some true)
end
def spec_RuleOk.f (k:Nat) (a0:ByteArray):Option (Bool):=if (a0.size:Int) > 16 then (spec_RuleOk.j0 k a0 true) else (if a0.toList = ([]:List UInt8) then (spec_RuleOk.j0 k a0 true) else (if 0 < (a0.size:Int) then (spec_RuleOk.j0 k a0 ((bt a0 0) != 47)) else (none)))
theorem spec_RuleOk.mono_l:∀ k,(∀ y0 y1,LeO (spec_RuleOk.j0 k y0 y1) (spec_RuleOk.j0 (k + 1) y0 y1)) ∧ (∀ y0 y1,LeO (spec_RuleOk.l0 k y0 y1) (spec_RuleOk.l0 (k + 1) y0 y1))
 | 0=>⟨fun _ _ r h=>by simp [spec_RuleOk.j0] at h,fun _ _ r h=>by simp [spec_RuleOk.l0] at h⟩
 | k + 1=>by
  obtain ⟨ih0,ih1⟩:=spec_RuleOk.mono_l k
  refine ⟨?_,?_⟩
  ·intro y0 y1
   unfold spec_RuleOk.j0
   repeat' first
   | (with_reducible exact ih0 _ _)
   | (with_reducible exact ih1 _ _)
   | (with_reducible exact LeO.refl _)
   | (with_reducible exact LeO.none _)
   | (with_reducible refine LeO.ite ?_ ?_)
   | (with_reducible refine LeO.bind ?_ (fun _=>?_))
   | exact ih0 _ _
   | exact ih1 _ _
   | exact LeO.none _
   | refine LeO.ite ?_ ?_
   | refine LeO.bind ?_ (fun _=>?_)
  ·intro y0 y1
   unfold spec_RuleOk.l0
   repeat' first
   | (with_reducible exact ih0 _ _)
   | (with_reducible exact ih1 _ _)
   | (with_reducible exact LeO.refl _)
   | (with_reducible exact LeO.none _)
   | (with_reducible refine LeO.ite ?_ ?_)
   | (with_reducible refine LeO.bind ?_ (fun _=>?_))
   | exact ih0 _ _
   | exact ih1 _ _
   | exact LeO.none _
   | refine LeO.ite ?_ ?_
   | refine LeO.bind ?_ (fun _=>?_)
theorem spec_RuleOk.mono:∀ a0 k,LeO (spec_RuleOk.f k a0) (spec_RuleOk.f (k + 1) a0):=by
 intro a0 k
 obtain ⟨ih0,ih1⟩:=spec_RuleOk.mono_l k
 unfold spec_RuleOk.f
 repeat' first
   | (with_reducible exact ih0 _ _)
   | (with_reducible exact ih1 _ _)
   | (with_reducible exact LeO.refl _)
   | (with_reducible exact LeO.none _)
   | (with_reducible refine LeO.ite ?_ ?_)
   | (with_reducible refine LeO.bind ?_ (fun _=>?_))
   | exact ih0 _ _
   | exact ih1 _ _
   | exact LeO.none _
   | refine LeO.ite ?_ ?_
   | refine LeO.bind ?_ (fun _=>?_)
theorem spec_RuleOk.calls (k:Nat) (a0:ByteArray) (r:Bool) (w:World) (h:spec_RuleOk.f k a0 = some r) :
  Calls Try.prog 40 #[.string a0] w fun e w'=>e = .returned (.bool r) ∧ Drawn0 w w':=by
 have H:(if (a0.size:Int) > 16 then (spec_RuleOk.j0 k a0 true) else (if a0.toList = ([]:List UInt8) then (spec_RuleOk.j0 k a0 true) else (if 0 < (a0.size:Int) then (spec_RuleOk.j0 k a0 ((bt a0 0) != 47)) else (none)))) = some r:=h
 clear h
 have HC2:=Aside0.mk H
 clear H
 go_enter Try.func40,Try.ntmps40
 go_upto_region 1 with (fail)
 go_cut [16] (fun v16 wc=>∃ (kq:Nat) (x16_1:Bool),v16 = .bool x16_1 ∧ Aside0 (spec_RuleOk.j0 kq a0 x16_1 = some r) ∧ Aside0 (kq ≤ k) ∧ Drawn0 w wc)
 case first =>
  have H:=HC2.out
  clear HC2
  by_cases c3:(a0.size:Int) > 16
  ·rw [if_pos c3] at H
   have c3b0:decide (16 < (a0.size:Int)) = true:=decide_eq_true c3
   have c3b1:decide (16 < a0.size) = true:=decide_eq_true (by omega)
   clear c3
   (first|rw [c3b0]|(simp only [i64_w,i32_w];rw [c3b0])|skip)
   have H':=Aside0.mk H
   clear H
   go_wp2
   go_meet
   case rel=>exact ⟨_,(true),(by first|rfl|(simp;done)|(simp only [i64_w,i32_w];done)|(simp only [i64_w,i32_w];rfl)|(simp [*];done)|(simp [emp_bne,emp_beq];done)),H',⟨by first|omega|exact Nat.le_refl _⟩,by repeat (first|exact Drawn0.refl _|apply Drawn0.step)⟩
  ·rw [if_neg c3] at H
   have c3b0:decide (16 < (a0.size:Int)) = false:=decide_eq_false c3
   have c3b1:decide (16 < a0.size) = false:=decide_eq_false (by omega)
   clear c3
   (first|rw [c3b0]|(simp only [i64_w,i32_w];rw [c3b0])|skip)
   by_cases c4:a0.toList = ([]:List UInt8)
   ·rw [if_pos c4] at H
    (try (have c4b0:a0.toList.isEmpty = true:=by simpa using c4))
    have c4b1:(a0.toList == ([]:List UInt8)) = true:=beq_iff_eq.mpr c4
    have c4b2:(a0.toList != ([]:List UInt8)) = false:=bne_eq_false_iff_eq.mpr c4
    clear c4
    have H':=Aside0.mk H
    clear H
    go_wp2
    go_meet
    case rel=>exact ⟨_,(true),(by first|rfl|(simp;done)|(simp only [i64_w,i32_w];done)|(simp only [i64_w,i32_w];rfl)|(simp [*];done)|(simp [emp_bne,emp_beq];done)),H',⟨by first|omega|exact Nat.le_refl _⟩,by repeat (first|exact Drawn0.refl _|apply Drawn0.step)⟩
   ·rw [if_neg c4] at H
    (try (have c4b0:a0.toList.isEmpty = false:=by simpa using c4))
    have c4b1:(a0.toList == ([]:List UInt8)) = false:=beq_eq_false_iff_ne.mpr c4
    have c4b2:(a0.toList != ([]:List UInt8)) = true:=bne_iff_ne.mpr c4
    by_cases c5:0 < (a0.size:Int)
    ·rw [if_pos c5] at H
     have c5b0:decide (0 < (a0.size:Int)) = true:=decide_eq_true c5
     have c5b1:decide (0 < a0.size) = true:=decide_eq_true (by omega)
     clear c5
     have H':=Aside0.mk H
     clear H
     have p6:0 ≤ (0:Int):=(by omega)
     have q6:0 < a0.size:=(by have:(0:Int) < (a0.size:Int):=of_decide_eq_true (by first|(with_reducible assumption)|assumption);omega)
     have hx6:∀ h:0 < a0.size,((a0[0]'h).toNat:Int) = bt a0 0:=bt_at a0 0
     clear p6
     have qi6:(0 < (a0.size:Int)) = True:=eq_true (of_decide_eq_true (by first|(with_reducible assumption)|assumption))
     replace q6:=eq_true q6
     go_wp2
     go_meet
     case rel=>exact ⟨_,(((bt a0 0) != 47)),(by first|rfl|(simp;done)|(simp only [i64_w,i32_w];done)|(simp only [i64_w,i32_w];rfl)|(simp [*];done)|(simp [emp_bne,emp_beq];done)),H',⟨by first|omega|exact Nat.le_refl _⟩,by repeat (first|exact Drawn0.refl _|apply Drawn0.step)⟩
    ·rw [if_neg c5] at H
     exact absurd H (by simp)
 case rest =>
  clear HC2
  try clear p2
  try clear c3
  try clear c3b0
  try clear c3b1
  try clear c4
  try clear c4b0
  try clear c4b1
  try clear c4b2
  try clear c5
  try clear c5b0
  try clear c5b1
  try clear p6
  try clear q6
  try clear hx6
  try clear qi6
  try clear p6
  try clear q6
  obtain ⟨kq,x16_1,rfl,HA,HJ1,⟨mc1,rfl⟩⟩:=hcut
  cases kq with
  | zero=>exact absurd HA.out (by simp [spec_RuleOk.j0])
  | succ kj1 =>
   have H:=HA.out
   clear HA
   simp only [spec_RuleOk.j0] at H
   by_cases c7:x16_1 = true
   ·subst c7
    have H1:(some false) = some r:=by rw [if_pos rfl] at H;exact H
    clear H
    have H:=H1
    clear H1
    obtain rfl:=Option.some.inj H
    go_wp2
    go_ret
    exact ⟨by first|rfl|(simp;done)|(simp only [i64_w,i32_w];done)|(simp only [i64_w,i32_w];rfl)|(simp [*];done)|(simp [emp_bne,emp_beq];done),by repeat (first|exact Drawn0.refl _|apply Drawn0.step)⟩
   ·replace c7:=Bool.eq_false_iff.mpr c7
    subst c7
    have H1:(spec_RuleOk.l0 kj1 a0 0) = some r:=by rw [if_neg (show ¬ (false = true) by decide)] at H;exact H
    clear H
    have H:=H1
    clear H1
    have H':=Aside0.mk H
    clear H
    go_wp2
    go_loopg [3] kj1 (fun kq v3 w'=>∃ (x3_2:Int),v3 = .int .i64 x3_2 ∧ Aside0 (spec_RuleOk.l0 kq a0 x3_2 = some r) ∧ Aside0 (kq ≤ kj1) ∧ Drawn0 w w')
    case atStart=>exact ⟨(0),(by first|rfl|(simp;done)|(simp only [i64_w,i32_w];done)|(simp only [i64_w,i32_w];rfl)|(simp [*];done)|(simp [emp_bne,emp_beq];done)),H',⟨Nat.le_refl _⟩,by repeat (first|exact Drawn0.refl _|apply Drawn0.step)⟩
    case round =>
     clear H'
     try clear c1
     try clear p2
     try clear c3
     try clear c3b0
     try clear c3b1
     try clear c4
     try clear c4b0
     try clear c4b1
     try clear c4b2
     try clear c5
     try clear c5b0
     try clear c5b1
     try clear p6
     try clear q6
     try clear hx6
     try clear qi6
     try clear c7
     try clear p2
     try clear p6
     try clear q6
     obtain ⟨x3_2,rfl,HA,HK2,⟨m2,rfl⟩⟩:=hrel
     cases gk with
     | zero=>exact absurd HA.out (by simp [spec_RuleOk.l0])
     | succ k2 =>
      have H:=HA.out
      clear HA
      simp only [spec_RuleOk.l0] at H
      by_cases c8:x3_2 < (a0.size:Int)
      ·rw [if_pos c8] at H
       have c8b0:decide (x3_2 < (a0.size:Int)) = true:=decide_eq_true c8
       clear c8
       by_cases c9:0 ≤ x3_2
       ·rw [if_pos c9] at H
        have c9b0:decide (0 ≤ x3_2) = true:=decide_eq_true c9
        clear c9
        replace H:=Option.bind_eq_some_iff.mp H
        obtain ⟨t256,A110,H⟩:=H
        replace H:(if t256 = true then (spec_RuleOk.l0 k2 a0 (wrap64 (x3_2 + 1))) else (if (bt a0 x3_2) = 47 then (spec_RuleOk.l0 k2 a0 (wrap64 (x3_2 + 1))) else (if (bt a0 x3_2) = 42 then (spec_RuleOk.l0 k2 a0 (wrap64 (x3_2 + 1))) else (if (bt a0 x3_2) = 63 then (spec_RuleOk.l0 k2 a0 (wrap64 (x3_2 + 1))) else (if (bt a0 x3_2) = 37 then (spec_RuleOk.l0 k2 a0 (wrap64 (x3_2 + 1))) else (if (bt a0 x3_2) ≥ 65 then (if ((bt a0 x3_2) ≤ 70) then (spec_RuleOk.l0 k2 a0 (wrap64 (x3_2 + 1))) else (if (bt a0 x3_2) = 36 then (if (x3_2 = (wrap64 ((a0.size:Int) - 1))) then (spec_RuleOk.l0 k2 a0 (wrap64 (x3_2 + 1))) else (some false)) else (some false))) else (if (bt a0 x3_2) = 36 then (if (x3_2 = (wrap64 ((a0.size:Int) - 1))) then (spec_RuleOk.l0 k2 a0 (wrap64 (x3_2 + 1))) else (some false)) else (some false)))))))) = some r:=H
        have A11:=Aside0.mk A110
        clear A110
        by_cases c12:t256 = true
        ·subst c12
         have H1:(spec_RuleOk.l0 k2 a0 (wrap64 (x3_2 + 1))) = some r:=by rw [if_pos rfl] at H;exact H
         clear H
         have H:=H1
         clear H1
         have H':=Aside0.mk H
         clear H
         have p10:0 ≤ (x3_2:Int):=of_decide_eq_true (by first|(with_reducible assumption)|assumption)
         have q10:x3_2 < (a0.size:Int):=of_decide_eq_true (by first|(with_reducible assumption)|assumption)
         have hx10:=bt_at a0 x3_2
         replace p10:=eq_true p10
         replace q10:=eq_true q10
         go_wp2_with (first|((with_reducible refine gate_callee (f:=55) rfl ?_);refine goesL_ (some 27) rfl rfl Try.func55 (by kernel_rfl) rfl #[.int .u8 (bt a0 x3_2)] rfl (by (try simp only [List.map_toArray,List.map_cons,List.map_nil]);first|done|rfl|(simp only [List.length_drop,List.length_take];rfl)) ?_;(with_reducible refine (spec_l1Plain.calls (bt a0 x3_2) true _ A11.out).mono ?_);rintro e w' ⟨rfl,⟨nd,rfl⟩⟩;refine ⟨_,rfl,?_⟩))
         go_roundg k2
         case measure=>have:=HJ1.out;have:=HK2.out;omega
         case rel=>exact ⟨(wrap64 (x3_2 + 1)),(by first|rfl|(simp;done)|(simp only [i64_w,i32_w];done)|(simp only [i64_w,i32_w];rfl)|(simp [*];done)|(simp [emp_bne,emp_beq];done)),H',⟨by have:=HJ1.out;have:=HK2.out;omega⟩,by repeat (first|exact Drawn0.refl _|apply Drawn0.step)⟩
        ·replace c12:=Bool.eq_false_iff.mpr c12
         subst c12
         have H1:(if (bt a0 x3_2) = 47 then (spec_RuleOk.l0 k2 a0 (wrap64 (x3_2 + 1))) else (if (bt a0 x3_2) = 42 then (spec_RuleOk.l0 k2 a0 (wrap64 (x3_2 + 1))) else (if (bt a0 x3_2) = 63 then (spec_RuleOk.l0 k2 a0 (wrap64 (x3_2 + 1))) else (if (bt a0 x3_2) = 37 then (spec_RuleOk.l0 k2 a0 (wrap64 (x3_2 + 1))) else (if (bt a0 x3_2) ≥ 65 then (if ((bt a0 x3_2) ≤ 70) then (spec_RuleOk.l0 k2 a0 (wrap64 (x3_2 + 1))) else (if (bt a0 x3_2) = 36 then (if (x3_2 = (wrap64 ((a0.size:Int) - 1))) then (spec_RuleOk.l0 k2 a0 (wrap64 (x3_2 + 1))) else (some false)) else (some false))) else (if (bt a0 x3_2) = 36 then (if (x3_2 = (wrap64 ((a0.size:Int) - 1))) then (spec_RuleOk.l0 k2 a0 (wrap64 (x3_2 + 1))) else (some false)) else (some false))))))) = some r:=by rw [if_neg (show ¬ (false = true) by decide)] at H;exact H
         clear H
         have H:=H1
         clear H1
         by_cases c13:(bt a0 x3_2) = 47
         ·rw [if_pos c13] at H
          have c13b0:((bt a0 x3_2) == 47) = true:=beq_iff_eq.mpr c13
          have c13b1:((bt a0 x3_2) != 47) = false:=bne_eq_false_iff_eq.mpr c13
          clear c13
          have H':=Aside0.mk H
          clear H
          have p10:0 ≤ (x3_2:Int):=of_decide_eq_true (by first|(with_reducible assumption)|assumption)
          have q10:x3_2 < (a0.size:Int):=of_decide_eq_true (by first|(with_reducible assumption)|assumption)
          have hx10:=bt_at a0 x3_2
          replace p10:=eq_true p10
          replace q10:=eq_true q10
          go_wp2_with (first|((with_reducible refine gate_callee (f:=55) rfl ?_);refine goesL_ (some 27) rfl rfl Try.func55 (by kernel_rfl) rfl #[.int .u8 (bt a0 x3_2)] rfl (by (try simp only [List.map_toArray,List.map_cons,List.map_nil]);first|done|rfl|(simp only [List.length_drop,List.length_take];rfl)) ?_;(with_reducible refine (spec_l1Plain.calls (bt a0 x3_2) false _ A11.out).mono ?_);rintro e w' ⟨rfl,⟨nd,rfl⟩⟩;refine ⟨_,rfl,?_⟩))
          go_roundg k2
          case measure=>have:=HJ1.out;have:=HK2.out;omega
          case rel=>exact ⟨(wrap64 (x3_2 + 1)),(by first|rfl|(simp;done)|(simp only [i64_w,i32_w];done)|(simp only [i64_w,i32_w];rfl)|(simp [*];done)|(simp [emp_bne,emp_beq];done)),H',⟨by have:=HJ1.out;have:=HK2.out;omega⟩,by repeat (first|exact Drawn0.refl _|apply Drawn0.step)⟩
         ·rw [if_neg c13] at H
          have c13b0:((bt a0 x3_2) == 47) = false:=beq_eq_false_iff_ne.mpr c13
          have c13b1:((bt a0 x3_2) != 47) = true:=bne_iff_ne.mpr c13
          by_cases c14:(bt a0 x3_2) = 42
          ·rw [if_pos c14] at H
           have c14b0:((bt a0 x3_2) == 42) = true:=beq_iff_eq.mpr c14
           have c14b1:((bt a0 x3_2) != 42) = false:=bne_eq_false_iff_eq.mpr c14
           clear c14
           have H':=Aside0.mk H
           clear H
           have p10:0 ≤ (x3_2:Int):=of_decide_eq_true (by first|(with_reducible assumption)|assumption)
           have q10:x3_2 < (a0.size:Int):=of_decide_eq_true (by first|(with_reducible assumption)|assumption)
           have hx10:=bt_at a0 x3_2
           replace p10:=eq_true p10
           replace q10:=eq_true q10
           go_wp2_with (first|((with_reducible refine gate_callee (f:=55) rfl ?_);refine goesL_ (some 27) rfl rfl Try.func55 (by kernel_rfl) rfl #[.int .u8 (bt a0 x3_2)] rfl (by (try simp only [List.map_toArray,List.map_cons,List.map_nil]);first|done|rfl|(simp only [List.length_drop,List.length_take];rfl)) ?_;(with_reducible refine (spec_l1Plain.calls (bt a0 x3_2) false _ A11.out).mono ?_);rintro e w' ⟨rfl,⟨nd,rfl⟩⟩;refine ⟨_,rfl,?_⟩))
           go_roundg k2
           case measure=>have:=HJ1.out;have:=HK2.out;omega
           case rel=>exact ⟨(wrap64 (x3_2 + 1)),(by first|rfl|(simp;done)|(simp only [i64_w,i32_w];done)|(simp only [i64_w,i32_w];rfl)|(simp [*];done)|(simp [emp_bne,emp_beq];done)),H',⟨by have:=HJ1.out;have:=HK2.out;omega⟩,by repeat (first|exact Drawn0.refl _|apply Drawn0.step)⟩
          ·rw [if_neg c14] at H
           have c14b0:((bt a0 x3_2) == 42) = false:=beq_eq_false_iff_ne.mpr c14
           have c14b1:((bt a0 x3_2) != 42) = true:=bne_iff_ne.mpr c14
           by_cases c15:(bt a0 x3_2) = 63
           ·rw [if_pos c15] at H
            have c15b0:((bt a0 x3_2) == 63) = true:=beq_iff_eq.mpr c15
            have c15b1:((bt a0 x3_2) != 63) = false:=bne_eq_false_iff_eq.mpr c15
            clear c15
            have H':=Aside0.mk H
            clear H
            have p10:0 ≤ (x3_2:Int):=of_decide_eq_true (by first|(with_reducible assumption)|assumption)
            have q10:x3_2 < (a0.size:Int):=of_decide_eq_true (by first|(with_reducible assumption)|assumption)
            have hx10:=bt_at a0 x3_2
            replace p10:=eq_true p10
            replace q10:=eq_true q10
            go_wp2_with (first|((with_reducible refine gate_callee (f:=55) rfl ?_);refine goesL_ (some 27) rfl rfl Try.func55 (by kernel_rfl) rfl #[.int .u8 (bt a0 x3_2)] rfl (by (try simp only [List.map_toArray,List.map_cons,List.map_nil]);first|done|rfl|(simp only [List.length_drop,List.length_take];rfl)) ?_;(with_reducible refine (spec_l1Plain.calls (bt a0 x3_2) false _ A11.out).mono ?_);rintro e w' ⟨rfl,⟨nd,rfl⟩⟩;refine ⟨_,rfl,?_⟩))
            go_roundg k2
            case measure=>have:=HJ1.out;have:=HK2.out;omega
            case rel=>exact ⟨(wrap64 (x3_2 + 1)),(by first|rfl|(simp;done)|(simp only [i64_w,i32_w];done)|(simp only [i64_w,i32_w];rfl)|(simp [*];done)|(simp [emp_bne,emp_beq];done)),H',⟨by have:=HJ1.out;have:=HK2.out;omega⟩,by repeat (first|exact Drawn0.refl _|apply Drawn0.step)⟩
           ·rw [if_neg c15] at H
            have c15b0:((bt a0 x3_2) == 63) = false:=beq_eq_false_iff_ne.mpr c15
            have c15b1:((bt a0 x3_2) != 63) = true:=bne_iff_ne.mpr c15
            by_cases c16:(bt a0 x3_2) = 37
            ·rw [if_pos c16] at H
             have c16b0:((bt a0 x3_2) == 37) = true:=beq_iff_eq.mpr c16
             have c16b1:((bt a0 x3_2) != 37) = false:=bne_eq_false_iff_eq.mpr c16
             clear c16
             have H':=Aside0.mk H
             clear H
             have p10:0 ≤ (x3_2:Int):=of_decide_eq_true (by first|(with_reducible assumption)|assumption)
             have q10:x3_2 < (a0.size:Int):=of_decide_eq_true (by first|(with_reducible assumption)|assumption)
             have hx10:=bt_at a0 x3_2
             replace p10:=eq_true p10
             replace q10:=eq_true q10
             go_wp2_with (first|((with_reducible refine gate_callee (f:=55) rfl ?_);refine goesL_ (some 27) rfl rfl Try.func55 (by kernel_rfl) rfl #[.int .u8 (bt a0 x3_2)] rfl (by (try simp only [List.map_toArray,List.map_cons,List.map_nil]);first|done|rfl|(simp only [List.length_drop,List.length_take];rfl)) ?_;(with_reducible refine (spec_l1Plain.calls (bt a0 x3_2) false _ A11.out).mono ?_);rintro e w' ⟨rfl,⟨nd,rfl⟩⟩;refine ⟨_,rfl,?_⟩))
             go_roundg k2
             case measure=>have:=HJ1.out;have:=HK2.out;omega
             case rel=>exact ⟨(wrap64 (x3_2 + 1)),(by first|rfl|(simp;done)|(simp only [i64_w,i32_w];done)|(simp only [i64_w,i32_w];rfl)|(simp [*];done)|(simp [emp_bne,emp_beq];done)),H',⟨by have:=HJ1.out;have:=HK2.out;omega⟩,by repeat (first|exact Drawn0.refl _|apply Drawn0.step)⟩
            ·rw [if_neg c16] at H
             have c16b0:((bt a0 x3_2) == 37) = false:=beq_eq_false_iff_ne.mpr c16
             have c16b1:((bt a0 x3_2) != 37) = true:=bne_iff_ne.mpr c16
             by_cases c17:(bt a0 x3_2) ≥ 65
             ·rw [if_pos c17] at H
              have c17b0:decide (65 ≤ (bt a0 x3_2)) = true:=decide_eq_true c17
              clear c17
              by_cases c18:((bt a0 x3_2) ≤ 70)
              ·rw [if_pos c18] at H
               have c18b0:decide ((bt a0 x3_2) ≤ 70) = true:=decide_eq_true c18
               clear c18
               have H':=Aside0.mk H
               clear H
               have p10:0 ≤ (x3_2:Int):=of_decide_eq_true (by first|(with_reducible assumption)|assumption)
               have q10:x3_2 < (a0.size:Int):=of_decide_eq_true (by first|(with_reducible assumption)|assumption)
               have hx10:=bt_at a0 x3_2
               replace p10:=eq_true p10
               replace q10:=eq_true q10
               go_wp2_with (first|((with_reducible refine gate_callee (f:=55) rfl ?_);refine goesL_ (some 27) rfl rfl Try.func55 (by kernel_rfl) rfl #[.int .u8 (bt a0 x3_2)] rfl (by (try simp only [List.map_toArray,List.map_cons,List.map_nil]);first|done|rfl|(simp only [List.length_drop,List.length_take];rfl)) ?_;(with_reducible refine (spec_l1Plain.calls (bt a0 x3_2) false _ A11.out).mono ?_);rintro e w' ⟨rfl,⟨nd,rfl⟩⟩;refine ⟨_,rfl,?_⟩))
               go_roundg k2
               case measure=>have:=HJ1.out;have:=HK2.out;omega
               case rel=>exact ⟨(wrap64 (x3_2 + 1)),(by first|rfl|(simp;done)|(simp only [i64_w,i32_w];done)|(simp only [i64_w,i32_w];rfl)|(simp [*];done)|(simp [emp_bne,emp_beq];done)),H',⟨by have:=HJ1.out;have:=HK2.out;omega⟩,by repeat (first|exact Drawn0.refl _|apply Drawn0.step)⟩
              ·rw [if_neg c18] at H
               have c18b0:decide ((bt a0 x3_2) ≤ 70) = false:=decide_eq_false c18
               clear c18
               by_cases c19:(bt a0 x3_2) = 36
               ·rw [if_pos c19] at H
                have c19b0:((bt a0 x3_2) == 36) = true:=beq_iff_eq.mpr c19
                have c19b1:((bt a0 x3_2) != 36) = false:=bne_eq_false_iff_eq.mpr c19
                clear c19
                by_cases c20:(x3_2 = (wrap64 ((a0.size:Int) - 1)))
                ·rw [if_pos c20] at H
                 have c20b0:(x3_2 == (wrap64 ((a0.size:Int) - 1))) = true:=beq_iff_eq.mpr c20
                 have c20b1:(x3_2 != (wrap64 ((a0.size:Int) - 1))) = false:=bne_eq_false_iff_eq.mpr c20
                 clear c20
                 have H':=Aside0.mk H
                 clear H
                 have p10:0 ≤ (x3_2:Int):=of_decide_eq_true (by first|(with_reducible assumption)|assumption)
                 have q10:x3_2 < (a0.size:Int):=of_decide_eq_true (by first|(with_reducible assumption)|assumption)
                 have hx10:=bt_at a0 x3_2
                 replace p10:=eq_true p10
                 replace q10:=eq_true q10
                 go_wp2_with (first|((with_reducible refine gate_callee (f:=55) rfl ?_);refine goesL_ (some 27) rfl rfl Try.func55 (by kernel_rfl) rfl #[.int .u8 (bt a0 x3_2)] rfl (by (try simp only [List.map_toArray,List.map_cons,List.map_nil]);first|done|rfl|(simp only [List.length_drop,List.length_take];rfl)) ?_;(with_reducible refine (spec_l1Plain.calls (bt a0 x3_2) false _ A11.out).mono ?_);rintro e w' ⟨rfl,⟨nd,rfl⟩⟩;refine ⟨_,rfl,?_⟩))
                 go_roundg k2
                 case measure=>have:=HJ1.out;have:=HK2.out;omega
                 case rel=>exact ⟨(wrap64 (x3_2 + 1)),(by first|rfl|(simp;done)|(simp only [i64_w,i32_w];done)|(simp only [i64_w,i32_w];rfl)|(simp [*];done)|(simp [emp_bne,emp_beq];done)),H',⟨by have:=HJ1.out;have:=HK2.out;omega⟩,by repeat (first|exact Drawn0.refl _|apply Drawn0.step)⟩
                ·rw [if_neg c20] at H
                 have c20b0:(x3_2 == (wrap64 ((a0.size:Int) - 1))) = false:=beq_eq_false_iff_ne.mpr c20
                 have c20b1:(x3_2 != (wrap64 ((a0.size:Int) - 1))) = true:=bne_iff_ne.mpr c20
                 obtain rfl:=Option.some.inj H
                 have p10:0 ≤ (x3_2:Int):=of_decide_eq_true (by first|(with_reducible assumption)|assumption)
                 have q10:x3_2 < (a0.size:Int):=of_decide_eq_true (by first|(with_reducible assumption)|assumption)
                 have hx10:=bt_at a0 x3_2
                 replace p10:=eq_true p10
                 replace q10:=eq_true q10
                 go_wp2_with (first|((with_reducible refine gate_callee (f:=55) rfl ?_);refine goesL_ (some 27) rfl rfl Try.func55 (by kernel_rfl) rfl #[.int .u8 (bt a0 x3_2)] rfl (by (try simp only [List.map_toArray,List.map_cons,List.map_nil]);first|done|rfl|(simp only [List.length_drop,List.length_take];rfl)) ?_;(with_reducible refine (spec_l1Plain.calls (bt a0 x3_2) false _ A11.out).mono ?_);rintro e w' ⟨rfl,⟨nd,rfl⟩⟩;refine ⟨_,rfl,?_⟩))
                 go_ret
                 exact ⟨by first|rfl|(simp;done)|(simp only [i64_w,i32_w];done)|(simp only [i64_w,i32_w];rfl)|(simp [*];done)|(simp [emp_bne,emp_beq];done),by repeat (first|exact Drawn0.refl _|apply Drawn0.step)⟩
               ·rw [if_neg c19] at H
                have c19b0:((bt a0 x3_2) == 36) = false:=beq_eq_false_iff_ne.mpr c19
                have c19b1:((bt a0 x3_2) != 36) = true:=bne_iff_ne.mpr c19
                obtain rfl:=Option.some.inj H
                have p10:0 ≤ (x3_2:Int):=of_decide_eq_true (by first|(with_reducible assumption)|assumption)
                have q10:x3_2 < (a0.size:Int):=of_decide_eq_true (by first|(with_reducible assumption)|assumption)
                have hx10:=bt_at a0 x3_2
                replace p10:=eq_true p10
                replace q10:=eq_true q10
                go_wp2_with (first|((with_reducible refine gate_callee (f:=55) rfl ?_);refine goesL_ (some 27) rfl rfl Try.func55 (by kernel_rfl) rfl #[.int .u8 (bt a0 x3_2)] rfl (by (try simp only [List.map_toArray,List.map_cons,List.map_nil]);first|done|rfl|(simp only [List.length_drop,List.length_take];rfl)) ?_;(with_reducible refine (spec_l1Plain.calls (bt a0 x3_2) false _ A11.out).mono ?_);rintro e w' ⟨rfl,⟨nd,rfl⟩⟩;refine ⟨_,rfl,?_⟩))
                go_ret
                exact ⟨by first|rfl|(simp;done)|(simp only [i64_w,i32_w];done)|(simp only [i64_w,i32_w];rfl)|(simp [*];done)|(simp [emp_bne,emp_beq];done),by repeat (first|exact Drawn0.refl _|apply Drawn0.step)⟩
             ·rw [if_neg c17] at H
              have c17b0:decide (65 ≤ (bt a0 x3_2)) = false:=decide_eq_false c17
              clear c17
              by_cases c21:(bt a0 x3_2) = 36
              ·rw [if_pos c21] at H
               have c21b0:((bt a0 x3_2) == 36) = true:=beq_iff_eq.mpr c21
               have c21b1:((bt a0 x3_2) != 36) = false:=bne_eq_false_iff_eq.mpr c21
               clear c21
               by_cases c22:(x3_2 = (wrap64 ((a0.size:Int) - 1)))
               ·rw [if_pos c22] at H
                have c22b0:(x3_2 == (wrap64 ((a0.size:Int) - 1))) = true:=beq_iff_eq.mpr c22
                have c22b1:(x3_2 != (wrap64 ((a0.size:Int) - 1))) = false:=bne_eq_false_iff_eq.mpr c22
                clear c22
                have H':=Aside0.mk H
                clear H
                have p10:0 ≤ (x3_2:Int):=of_decide_eq_true (by first|(with_reducible assumption)|assumption)
                have q10:x3_2 < (a0.size:Int):=of_decide_eq_true (by first|(with_reducible assumption)|assumption)
                have hx10:=bt_at a0 x3_2
                replace p10:=eq_true p10
                replace q10:=eq_true q10
                go_wp2_with (first|((with_reducible refine gate_callee (f:=55) rfl ?_);refine goesL_ (some 27) rfl rfl Try.func55 (by kernel_rfl) rfl #[.int .u8 (bt a0 x3_2)] rfl (by (try simp only [List.map_toArray,List.map_cons,List.map_nil]);first|done|rfl|(simp only [List.length_drop,List.length_take];rfl)) ?_;(with_reducible refine (spec_l1Plain.calls (bt a0 x3_2) false _ A11.out).mono ?_);rintro e w' ⟨rfl,⟨nd,rfl⟩⟩;refine ⟨_,rfl,?_⟩))
                go_roundg k2
                case measure=>have:=HJ1.out;have:=HK2.out;omega
                case rel=>exact ⟨(wrap64 (x3_2 + 1)),(by first|rfl|(simp;done)|(simp only [i64_w,i32_w];done)|(simp only [i64_w,i32_w];rfl)|(simp [*];done)|(simp [emp_bne,emp_beq];done)),H',⟨by have:=HJ1.out;have:=HK2.out;omega⟩,by repeat (first|exact Drawn0.refl _|apply Drawn0.step)⟩
               ·rw [if_neg c22] at H
                have c22b0:(x3_2 == (wrap64 ((a0.size:Int) - 1))) = false:=beq_eq_false_iff_ne.mpr c22
                have c22b1:(x3_2 != (wrap64 ((a0.size:Int) - 1))) = true:=bne_iff_ne.mpr c22
                obtain rfl:=Option.some.inj H
                have p10:0 ≤ (x3_2:Int):=of_decide_eq_true (by first|(with_reducible assumption)|assumption)
                have q10:x3_2 < (a0.size:Int):=of_decide_eq_true (by first|(with_reducible assumption)|assumption)
                have hx10:=bt_at a0 x3_2
                replace p10:=eq_true p10
                replace q10:=eq_true q10
                go_wp2_with (first|((with_reducible refine gate_callee (f:=55) rfl ?_);refine goesL_ (some 27) rfl rfl Try.func55 (by kernel_rfl) rfl #[.int .u8 (bt a0 x3_2)] rfl (by (try simp only [List.map_toArray,List.map_cons,List.map_nil]);first|done|rfl|(simp only [List.length_drop,List.length_take];rfl)) ?_;(with_reducible refine (spec_l1Plain.calls (bt a0 x3_2) false _ A11.out).mono ?_);rintro e w' ⟨rfl,⟨nd,rfl⟩⟩;refine ⟨_,rfl,?_⟩))
                go_ret
                exact ⟨by first|rfl|(simp;done)|(simp only [i64_w,i32_w];done)|(simp only [i64_w,i32_w];rfl)|(simp [*];done)|(simp [emp_bne,emp_beq];done),by repeat (first|exact Drawn0.refl _|apply Drawn0.step)⟩
              ·rw [if_neg c21] at H
               have c21b0:((bt a0 x3_2) == 36) = false:=beq_eq_false_iff_ne.mpr c21
               have c21b1:((bt a0 x3_2) != 36) = true:=bne_iff_ne.mpr c21
               obtain rfl:=Option.some.inj H
               have p10:0 ≤ (x3_2:Int):=of_decide_eq_true (by first|(with_reducible assumption)|assumption)
               have q10:x3_2 < (a0.size:Int):=of_decide_eq_true (by first|(with_reducible assumption)|assumption)
               have hx10:=bt_at a0 x3_2
               replace p10:=eq_true p10
               replace q10:=eq_true q10
               go_wp2_with (first|((with_reducible refine gate_callee (f:=55) rfl ?_);refine goesL_ (some 27) rfl rfl Try.func55 (by kernel_rfl) rfl #[.int .u8 (bt a0 x3_2)] rfl (by (try simp only [List.map_toArray,List.map_cons,List.map_nil]);first|done|rfl|(simp only [List.length_drop,List.length_take];rfl)) ?_;(with_reducible refine (spec_l1Plain.calls (bt a0 x3_2) false _ A11.out).mono ?_);rintro e w' ⟨rfl,⟨nd,rfl⟩⟩;refine ⟨_,rfl,?_⟩))
               go_ret
               exact ⟨by first|rfl|(simp;done)|(simp only [i64_w,i32_w];done)|(simp only [i64_w,i32_w];rfl)|(simp [*];done)|(simp [emp_bne,emp_beq];done),by repeat (first|exact Drawn0.refl _|apply Drawn0.step)⟩
       ·rw [if_neg c9] at H
        exact absurd H (by simp)
      ·rw [if_neg c8] at H
       have c8b0:decide (x3_2 < (a0.size:Int)) = false:=decide_eq_false c8
       clear c8
       obtain rfl:=Option.some.inj H
       go_wp2
       go_ret
       exact ⟨by first|rfl|(simp;done)|(simp only [i64_w,i32_w];done)|(simp only [i64_w,i32_w];rfl)|(simp [*];done)|(simp [emp_bne,emp_beq];done),by repeat (first|exact Drawn0.refl _|apply Drawn0.step)⟩

end Go.Proofs.Ytheakfegchndcaa.P
