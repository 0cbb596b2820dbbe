-- Written by a program of this session (patch_print.py over the kit's print; given texts in wip/given).
import Derived.Test.YtochmlkladpfgaaDoorPx0
import Derived.Test.YtochmlkladpfgaaDoorPx8
namespace Go.Proofs.YtochmlkladpfgaaDoor.P
open Go.RowKit Go.Proofs.YtochmlkladpfgaaDoorW.PrintWords Go.Proofs.YtochmlkladpfgaaDoorW.PrintLast Go.Proofs.YtochmlkladpfgaaDoorW.PrintMore
attribute [local go_sem] max2_int min2_int max_two min_two max_three min_three max_four min_four   -- for this text's walks alone
set_option linter.unusedVariables false
set_option linter.unusedSimpArgs false
set_option maxHeartbeats 8000000
set_option maxRecDepth 100000

/-! ### spec_l1Plain: function 71 -/
def spec_l1Plain.f (a0:Int):Option (Bool):=if a0 ≥ 97 then (if a0 ≤ 122 then (some true) else (if a0 ≥ 48 then (if a0 ≤ 57 then (some true) else (if a0 = 46 then (some true) else (some (a0 == 45)))) else (if a0 = 46 then (some true) else (some (a0 == 45))))) else (if a0 ≥ 48 then (if a0 ≤ 57 then (some true) else (if a0 = 46 then (some true) else (some (a0 == 45)))) else (if a0 = 46 then (some true) else (some (a0 == 45))))
theorem spec_l1Plain.calls (a0:Int) (r:Bool) (w:World) (h:spec_l1Plain.f a0 = some r) :
  Calls Tryd.prog 71 #[.int .u8 a0] w fun e w'=>e = .returned (.bool r) ∧ Drawn0 w w':=by
 have H:(if a0 ≥ 97 then (if a0 ≤ 122 then (some true) else (if a0 ≥ 48 then (if a0 ≤ 57 then (some true) else (if a0 = 46 then (some true) else (some (a0 == 45)))) else (if a0 = 46 then (some true) else (some (a0 == 45))))) else (if a0 ≥ 48 then (if a0 ≤ 57 then (some true) else (if a0 = 46 then (some true) else (some (a0 == 45)))) else (if a0 = 46 then (some true) else (some (a0 == 45))))) = some r:=h
 clear h
 by_cases c2:a0 ≥ 97
 ·rw [if_pos c2] at H
  have c2b0:decide (97 ≤ a0) = true:=decide_eq_true c2
  clear c2
  by_cases c3:a0 ≤ 122
  ·rw [if_pos c3] at H
   have c3b0:decide (a0 ≤ 122) = true:=decide_eq_true c3
   clear c3
   obtain rfl:=Option.some.inj H
   go_enter Tryd.func71,Tryd.ntmps71
   go_wp2
   go_ret
   exact ⟨by first|rfl|(simp;done)|(simp only [i64_w,i32_w];done)|(simp only [i64_w,i32_w];rfl)|(simp [*];done)|(simp [emp_bne,emp_beq];done),by repeat (first|exact Drawn0.refl _|apply Drawn0.step)⟩
  ·rw [if_neg c3] at H
   have c3b0:decide (a0 ≤ 122) = false:=decide_eq_false c3
   clear c3
   by_cases c4:a0 ≥ 48
   ·rw [if_pos c4] at H
    have c4b0:decide (48 ≤ a0) = true:=decide_eq_true c4
    clear c4
    by_cases c5:a0 ≤ 57
    ·rw [if_pos c5] at H
     have c5b0:decide (a0 ≤ 57) = true:=decide_eq_true c5
     clear c5
     obtain rfl:=Option.some.inj H
     go_enter Tryd.func71,Tryd.ntmps71
     go_wp2
     go_ret
     exact ⟨by first|rfl|(simp;done)|(simp only [i64_w,i32_w];done)|(simp only [i64_w,i32_w];rfl)|(simp [*];done)|(simp [emp_bne,emp_beq];done),by repeat (first|exact Drawn0.refl _|apply Drawn0.step)⟩
    ·rw [if_neg c5] at H
     have c5b0:decide (a0 ≤ 57) = false:=decide_eq_false c5
     clear c5
     by_cases c6:a0 = 46
     ·rw [if_pos c6] at H
      have c6b0:(a0 == 46) = true:=beq_iff_eq.mpr c6
      have c6b1:(a0 != 46) = false:=bne_eq_false_iff_eq.mpr c6
      clear c6
      obtain rfl:=Option.some.inj H
      go_enter Tryd.func71,Tryd.ntmps71
      go_wp2
      go_ret
      exact ⟨by first|rfl|(simp;done)|(simp only [i64_w,i32_w];done)|(simp only [i64_w,i32_w];rfl)|(simp [*];done)|(simp [emp_bne,emp_beq];done),by repeat (first|exact Drawn0.refl _|apply Drawn0.step)⟩
     ·rw [if_neg c6] at H
      have c6b0:(a0 == 46) = false:=beq_eq_false_iff_ne.mpr c6
      have c6b1:(a0 != 46) = true:=bne_iff_ne.mpr c6
      obtain rfl:=Option.some.inj H
      go_enter Tryd.func71,Tryd.ntmps71
      go_wp2
      go_ret
      exact ⟨by first|rfl|(simp;done)|(simp only [i64_w,i32_w];done)|(simp only [i64_w,i32_w];rfl)|(simp [*];done)|(simp [emp_bne,emp_beq];done),by repeat (first|exact Drawn0.refl _|apply Drawn0.step)⟩
   ·rw [if_neg c4] at H
    have c4b0:decide (48 ≤ a0) = false:=decide_eq_false c4
    clear c4
    by_cases c7:a0 = 46
    ·rw [if_pos c7] at H
     have c7b0:(a0 == 46) = true:=beq_iff_eq.mpr c7
     have c7b1:(a0 != 46) = false:=bne_eq_false_iff_eq.mpr c7
     clear c7
     obtain rfl:=Option.some.inj H
     go_enter Tryd.func71,Tryd.ntmps71
     go_wp2
     go_ret
     exact ⟨by first|rfl|(simp;done)|(simp only [i64_w,i32_w];done)|(simp only [i64_w,i32_w];rfl)|(simp [*];done)|(simp [emp_bne,emp_beq];done),by repeat (first|exact Drawn0.refl _|apply Drawn0.step)⟩
    ·rw [if_neg c7] at H
     have c7b0:(a0 == 46) = false:=beq_eq_false_iff_ne.mpr c7
     have c7b1:(a0 != 46) = true:=bne_iff_ne.mpr c7
     obtain rfl:=Option.some.inj H
     go_enter Tryd.func71,Tryd.ntmps71
     go_wp2
     go_ret
     exact ⟨by first|rfl|(simp;done)|(simp only [i64_w,i32_w];done)|(simp only [i64_w,i32_w];rfl)|(simp [*];done)|(simp [emp_bne,emp_beq];done),by repeat (first|exact Drawn0.refl _|apply Drawn0.step)⟩
 ·rw [if_neg c2] at H
  have c2b0:decide (97 ≤ a0) = false:=decide_eq_false c2
  clear c2
  by_cases c8:a0 ≥ 48
  ·rw [if_pos c8] at H
   have c8b0:decide (48 ≤ a0) = true:=decide_eq_true c8
   clear c8
   by_cases c9:a0 ≤ 57
   ·rw [if_pos c9] at H
    have c9b0:decide (a0 ≤ 57) = true:=decide_eq_true c9
    clear c9
    obtain rfl:=Option.some.inj H
    go_enter Tryd.func71,Tryd.ntmps71
    go_wp2
    go_ret
    exact ⟨by first|rfl|(simp;done)|(simp only [i64_w,i32_w];done)|(simp only [i64_w,i32_w];rfl)|(simp [*];done)|(simp [emp_bne,emp_beq];done),by repeat (first|exact Drawn0.refl _|apply Drawn0.step)⟩
   ·rw [if_neg c9] at H
    have c9b0:decide (a0 ≤ 57) = false:=decide_eq_false c9
    clear c9
    by_cases c10:a0 = 46
    ·rw [if_pos c10] at H
     have c10b0:(a0 == 46) = true:=beq_iff_eq.mpr c10
     have c10b1:(a0 != 46) = false:=bne_eq_false_iff_eq.mpr c10
     clear c10
     obtain rfl:=Option.some.inj H
     go_enter Tryd.func71,Tryd.ntmps71
     go_wp2
     go_ret
     exact ⟨by first|rfl|(simp;done)|(simp only [i64_w,i32_w];done)|(simp only [i64_w,i32_w];rfl)|(simp [*];done)|(simp [emp_bne,emp_beq];done),by repeat (first|exact Drawn0.refl _|apply Drawn0.step)⟩
    ·rw [if_neg c10] at H
     have c10b0:(a0 == 46) = false:=beq_eq_false_iff_ne.mpr c10
     have c10b1:(a0 != 46) = true:=bne_iff_ne.mpr c10
     obtain rfl:=Option.some.inj H
     go_enter Tryd.func71,Tryd.ntmps71
     go_wp2
     go_ret
     exact ⟨by first|rfl|(simp;done)|(simp only [i64_w,i32_w];done)|(simp only [i64_w,i32_w];rfl)|(simp [*];done)|(simp [emp_bne,emp_beq];done),by repeat (first|exact Drawn0.refl _|apply Drawn0.step)⟩
  ·rw [if_neg c8] at H
   have c8b0:decide (48 ≤ a0) = false:=decide_eq_false c8
   clear c8
   by_cases c11:a0 = 46
   ·rw [if_pos c11] at H
    have c11b0:(a0 == 46) = true:=beq_iff_eq.mpr c11
    have c11b1:(a0 != 46) = false:=bne_eq_false_iff_eq.mpr c11
    clear c11
    obtain rfl:=Option.some.inj H
    go_enter Tryd.func71,Tryd.ntmps71
    go_wp2
    go_ret
    exact ⟨by first|rfl|(simp;done)|(simp only [i64_w,i32_w];done)|(simp only [i64_w,i32_w];rfl)|(simp [*];done)|(simp [emp_bne,emp_beq];done),by repeat (first|exact Drawn0.refl _|apply Drawn0.step)⟩
   ·rw [if_neg c11] at H
    have c11b0:(a0 == 46) = false:=beq_eq_false_iff_ne.mpr c11
    have c11b1:(a0 != 46) = true:=bne_iff_ne.mpr c11
    obtain rfl:=Option.some.inj H
    go_enter Tryd.func71,Tryd.ntmps71
    go_wp2
    go_ret
    exact ⟨by first|rfl|(simp;done)|(simp only [i64_w,i32_w];done)|(simp only [i64_w,i32_w];rfl)|(simp [*];done)|(simp [emp_bne,emp_beq];done),by repeat (first|exact Drawn0.refl _|apply Drawn0.step)⟩

/-! ### spec_l1Sign: function 72 -/
def spec_l1Sign.f (a0:Int):Option (ByteArray):=if 0 ≤ (wrap64 (Int.tdiv a0 16)) then (if (wrap64 (Int.tdiv a0 16)) ≤ (wrap64 ((wrap64 (Int.tdiv a0 16)) + 1)) then (if (wrap64 ((wrap64 (Int.tdiv a0 16)) + 1)) ≤ 16 then (if 1 + ((⟨#[48,49,50,51,52,53,54,55,56,57,65,66,67,68,69,70]⟩:ByteArray).extract ((wrap64 (Int.tdiv a0 16)):Int).toNat ((wrap64 ((wrap64 (Int.tdiv a0 16)) + 1)):Int).toNat).size ≤ 9223372036854775807 then (if 0 ≤ (Int.tmod a0 16) then (if (Int.tmod a0 16) ≤ (wrap64 ((Int.tmod a0 16) + 1)) then (if (wrap64 ((Int.tmod a0 16) + 1)) ≤ 16 then (if ((⟨#[37]⟩:ByteArray) ++ ((⟨#[48,49,50,51,52,53,54,55,56,57,65,66,67,68,69,70]⟩:ByteArray).extract ((wrap64 (Int.tdiv a0 16)):Int).toNat ((wrap64 ((wrap64 (Int.tdiv a0 16)) + 1)):Int).toNat)).size + ((⟨#[48,49,50,51,52,53,54,55,56,57,65,66,67,68,69,70]⟩:ByteArray).extract ((Int.tmod a0 16):Int).toNat ((wrap64 ((Int.tmod a0 16) + 1)):Int).toNat).size ≤ 9223372036854775807 then (some (((⟨#[37]⟩:ByteArray) ++ ((⟨#[48,49,50,51,52,53,54,55,56,57,65,66,67,68,69,70]⟩:ByteArray).extract ((wrap64 (Int.tdiv a0 16)):Int).toNat ((wrap64 ((wrap64 (Int.tdiv a0 16)) + 1)):Int).toNat)) ++ ((⟨#[48,49,50,51,52,53,54,55,56,57,65,66,67,68,69,70]⟩:ByteArray).extract ((Int.tmod a0 16):Int).toNat ((wrap64 ((Int.tmod a0 16) + 1)):Int).toNat))) else (none)) else (none)) else (none)) else (none)) else (none)) else (none)) else (none)) else (none)
theorem spec_l1Sign.calls (a0:Int) (r:ByteArray) (w:World) (h:spec_l1Sign.f a0 = some r) :
  Calls Tryd.prog 72 #[.int .i64 a0] w fun e w'=>e = .returned (.string r) ∧ Drawn0 w w':=by
 have H:(if 0 ≤ (wrap64 (Int.tdiv a0 16)) then (if (wrap64 (Int.tdiv a0 16)) ≤ (wrap64 ((wrap64 (Int.tdiv a0 16)) + 1)) then (if (wrap64 ((wrap64 (Int.tdiv a0 16)) + 1)) ≤ 16 then (if 1 + ((⟨#[48,49,50,51,52,53,54,55,56,57,65,66,67,68,69,70]⟩:ByteArray).extract ((wrap64 (Int.tdiv a0 16)):Int).toNat ((wrap64 ((wrap64 (Int.tdiv a0 16)) + 1)):Int).toNat).size ≤ 9223372036854775807 then (if 0 ≤ (Int.tmod a0 16) then (if (Int.tmod a0 16) ≤ (wrap64 ((Int.tmod a0 16) + 1)) then (if (wrap64 ((Int.tmod a0 16) + 1)) ≤ 16 then (if ((⟨#[37]⟩:ByteArray) ++ ((⟨#[48,49,50,51,52,53,54,55,56,57,65,66,67,68,69,70]⟩:ByteArray).extract ((wrap64 (Int.tdiv a0 16)):Int).toNat ((wrap64 ((wrap64 (Int.tdiv a0 16)) + 1)):Int).toNat)).size + ((⟨#[48,49,50,51,52,53,54,55,56,57,65,66,67,68,69,70]⟩:ByteArray).extract ((Int.tmod a0 16):Int).toNat ((wrap64 ((Int.tmod a0 16) + 1)):Int).toNat).size ≤ 9223372036854775807 then (some (((⟨#[37]⟩:ByteArray) ++ ((⟨#[48,49,50,51,52,53,54,55,56,57,65,66,67,68,69,70]⟩:ByteArray).extract ((wrap64 (Int.tdiv a0 16)):Int).toNat ((wrap64 ((wrap64 (Int.tdiv a0 16)) + 1)):Int).toNat)) ++ ((⟨#[48,49,50,51,52,53,54,55,56,57,65,66,67,68,69,70]⟩:ByteArray).extract ((Int.tmod a0 16):Int).toNat ((wrap64 ((Int.tmod a0 16) + 1)):Int).toNat))) else (none)) else (none)) else (none)) else (none)) else (none)) else (none)) else (none)) else (none)) = some r:=h
 clear h
 obtain ⟨ji2,hji2⟩:∃ j_:Int,(wrap64 (Int.tdiv a0 16)) = j_:=⟨_,rfl⟩
 replace H:(if 0 ≤ (ji2) then (if (ji2) ≤ (wrap64 ((ji2) + 1)) then (if (wrap64 ((ji2) + 1)) ≤ 16 then (if 1 + ((⟨#[48,49,50,51,52,53,54,55,56,57,65,66,67,68,69,70]⟩:ByteArray).extract ((ji2):Int).toNat ((wrap64 ((ji2) + 1)):Int).toNat).size ≤ 9223372036854775807 then (if 0 ≤ (Int.tmod a0 16) then (if (Int.tmod a0 16) ≤ (wrap64 ((Int.tmod a0 16) + 1)) then (if (wrap64 ((Int.tmod a0 16) + 1)) ≤ 16 then (if ((⟨#[37]⟩:ByteArray) ++ ((⟨#[48,49,50,51,52,53,54,55,56,57,65,66,67,68,69,70]⟩:ByteArray).extract ((ji2):Int).toNat ((wrap64 ((ji2) + 1)):Int).toNat)).size + ((⟨#[48,49,50,51,52,53,54,55,56,57,65,66,67,68,69,70]⟩:ByteArray).extract ((Int.tmod a0 16):Int).toNat ((wrap64 ((Int.tmod a0 16) + 1)):Int).toNat).size ≤ 9223372036854775807 then (some (((⟨#[37]⟩:ByteArray) ++ ((⟨#[48,49,50,51,52,53,54,55,56,57,65,66,67,68,69,70]⟩:ByteArray).extract ((ji2):Int).toNat ((wrap64 ((ji2) + 1)):Int).toNat)) ++ ((⟨#[48,49,50,51,52,53,54,55,56,57,65,66,67,68,69,70]⟩:ByteArray).extract ((Int.tmod a0 16):Int).toNat ((wrap64 ((Int.tmod a0 16) + 1)):Int).toNat))) else (none)) else (none)) else (none)) else (none)) else (none)) else (none)) else (none)) else (none)) = some r:=by first|(rw [hji2] at H;exact H)|(simp only [hji2] at H ⊢;exact H)
 have hji2w:(IntKind.i64.wrap (Int.tdiv a0 16)) = ji2:=(i64_w _).trans hji2
 by_cases c3:0 ≤ (ji2)
 ·rw [if_pos c3] at H
  have c3b0:=eq_true c3
  have c3b1:=decide_eq_true c3
  clear c3
  by_cases c4:(ji2) ≤ (wrap64 ((ji2) + 1))
  ·rw [if_pos c4] at H
   have c4b0:=eq_true c4
   have c4b1:=decide_eq_true c4
   by_cases c5:(wrap64 ((ji2) + 1)) ≤ 16
   ·rw [if_pos c5] at H
    have c5b0:=eq_true c5
    have c5b1:=decide_eq_true c5
    by_cases c6:1 + ((⟨#[48,49,50,51,52,53,54,55,56,57,65,66,67,68,69,70]⟩:ByteArray).extract ((ji2):Int).toNat ((wrap64 ((ji2) + 1)):Int).toNat).size ≤ 9223372036854775807
    ·rw [if_pos c6] at H
     have c6b0:=eq_true c6
     have c6b1:=decide_eq_true c6
     try have c6b2:(9223372036854775807 < 1 + ((⟨#[48,49,50,51,52,53,54,55,56,57,65,66,67,68,69,70]⟩:ByteArray).extract ((ji2):Int).toNat ((wrap64 ((ji2) + 1)):Int).toNat).size) = False:=eq_false (Nat.not_lt.2 c6)
     obtain ⟨ji7,hji7⟩:∃ j_:Int,(Int.tmod a0 16) = j_:=⟨_,rfl⟩
     replace H:(if 0 ≤ (ji7) then (if (ji7) ≤ (wrap64 ((ji7) + 1)) then (if (wrap64 ((ji7) + 1)) ≤ 16 then (if ((⟨#[37]⟩:ByteArray) ++ ((⟨#[48,49,50,51,52,53,54,55,56,57,65,66,67,68,69,70]⟩:ByteArray).extract ((ji2):Int).toNat ((wrap64 ((ji2) + 1)):Int).toNat)).size + ((⟨#[48,49,50,51,52,53,54,55,56,57,65,66,67,68,69,70]⟩:ByteArray).extract ((ji7):Int).toNat ((wrap64 ((ji7) + 1)):Int).toNat).size ≤ 9223372036854775807 then (some (((⟨#[37]⟩:ByteArray) ++ ((⟨#[48,49,50,51,52,53,54,55,56,57,65,66,67,68,69,70]⟩:ByteArray).extract ((ji2):Int).toNat ((wrap64 ((ji2) + 1)):Int).toNat)) ++ ((⟨#[48,49,50,51,52,53,54,55,56,57,65,66,67,68,69,70]⟩:ByteArray).extract ((ji7):Int).toNat ((wrap64 ((ji7) + 1)):Int).toNat))) else (none)) else (none)) else (none)) else (none)) = some r:=by first|(rw [hji7] at H;exact H)|(simp only [hji7] at H ⊢;exact H)
     by_cases c8:0 ≤ (ji7)
     ·rw [if_pos c8] at H
      have c8b0:=eq_true c8
      have c8b1:=decide_eq_true c8
      clear c8
      by_cases c9:(ji7) ≤ (wrap64 ((ji7) + 1))
      ·rw [if_pos c9] at H
       have c9b0:=eq_true c9
       have c9b1:=decide_eq_true c9
       by_cases c10:(wrap64 ((ji7) + 1)) ≤ 16
       ·rw [if_pos c10] at H
        have c10b0:=eq_true c10
        have c10b1:=decide_eq_true c10
        by_cases c11:((⟨#[37]⟩:ByteArray) ++ ((⟨#[48,49,50,51,52,53,54,55,56,57,65,66,67,68,69,70]⟩:ByteArray).extract ((ji2):Int).toNat ((wrap64 ((ji2) + 1)):Int).toNat)).size + ((⟨#[48,49,50,51,52,53,54,55,56,57,65,66,67,68,69,70]⟩:ByteArray).extract ((ji7):Int).toNat ((wrap64 ((ji7) + 1)):Int).toNat).size ≤ 9223372036854775807
        ·rw [if_pos c11] at H
         have c11b0:=eq_true c11
         have c11b1:=decide_eq_true c11
         try have c11b2:(9223372036854775807 < ((⟨#[37]⟩:ByteArray) ++ ((⟨#[48,49,50,51,52,53,54,55,56,57,65,66,67,68,69,70]⟩:ByteArray).extract ((ji2):Int).toNat ((wrap64 ((ji2) + 1)):Int).toNat)).size + ((⟨#[48,49,50,51,52,53,54,55,56,57,65,66,67,68,69,70]⟩:ByteArray).extract ((ji7):Int).toNat ((wrap64 ((ji7) + 1)):Int).toNat).size) = False:=eq_false (Nat.not_lt.2 c11)
         obtain rfl:=Option.some.inj H
         go_enter Tryd.func72,Tryd.ntmps72
         go_wp2
         repeat (go_quiet (fail);try go_wp2)
         go_ret
         exact ⟨by first|rfl|(simp only [i64_w,i32_w];done)|(simp only [i64_w,i32_w];rfl)|(simp;done)|(simp only [← hji2,← hji7] <;> (first|rfl|simp))|(simp [*];done),by repeat (first|exact Drawn0.refl _|apply Drawn0.step)⟩
        ·rw [if_neg c11] at H
         exact absurd H (by simp)
       ·rw [if_neg c10] at H
        exact absurd H (by simp)
      ·rw [if_neg c9] at H
       exact absurd H (by simp)
     ·rw [if_neg c8] at H
      exact absurd H (by simp)
    ·rw [if_neg c6] at H
     exact absurd H (by simp)
   ·rw [if_neg c5] at H
    exact absurd H (by simp)
  ·rw [if_neg c4] at H
   exact absurd H (by simp)
 ·rw [if_neg c3] at H
  exact absurd H (by simp)

/-! ### spec_EscNorm: function 54 -/
mutual
def spec_EscNorm.l0:Nat → ByteArray → ByteArray → Int → Option (ByteArray × Bool)
 | 0,_,_,_=>none
 | k + 1,x0,x4,x5=>if x5 < (x0.size:Int) then (if 0 ≤ x5 then (if (bt x0 x5) = 37 then (if (wrap64 (x5 + 2)) ≥ (x0.size:Int) then (spec_EscNorm.j1 k x0 x4 x5 true) else (if 0 ≤ (wrap64 (x5 + 1)) then (if (wrap64 (x5 + 1)) < (x0.size:Int) then ((spec_l1Hex.f k (bt x0 (wrap64 (x5 + 1)))).bind fun t236=>(if t236 < 0 then (spec_EscNorm.j1 k x0 x4 x5 true) else (if 0 ≤ (wrap64 (x5 + 2)) then (if (wrap64 (x5 + 2)) < (x0.size:Int) then ((spec_l1Hex.f k (bt x0 (wrap64 (x5 + 2)))).bind fun t237=>(spec_EscNorm.j1 k x0 x4 x5 (decide (t237 < 0)))) else (none)) else (none)))) else (none)) else (none))) else (spec_EscNorm.j2 k x0 x4 x5 (wrap64 (bt x0 x5)))) else (none)) else (some (x4,true))
def spec_EscNorm.j2:Nat → ByteArray → ByteArray → Int → Int → Option (ByteArray × Bool)
 | 0,_,_,_,_=>none
 | k + 1,x0,x4,x5,x6=>(spec_l1Plain.f ((x6) % 256)).bind fun t240=>(if t240 = true then ((some (([(x6) % 256]:List Int):List Int)).bind fun y241=>(if x4.size + (strOfNums y241).size ≤ 9223372036854775807 then (spec_EscNorm.l0 k x0 (x4 ++ (strOfNums y241)) (wrap64 (x5 + 1))) else (none))) else ((spec_l1Sign.f x6).bind fun t244=>(if x4.size + t244.size ≤ 9223372036854775807 then (spec_EscNorm.l0 k x0 (x4 ++ t244) (wrap64 (x5 + 1))) else (none))))
def spec_EscNorm.j1:Nat → ByteArray → ByteArray → Int → Bool → Option (ByteArray × Bool)
 | 0,_,_,_,_=>none
 | k + 1,x0,x4,x5,x44=>if x44 = true then (some ((⟨#[]⟩:ByteArray),false)) else (if 0 ≤ (wrap64 (x5 + 1)) then (if (wrap64 (x5 + 1)) < (x0.size:Int) then ((spec_l1Hex.f k (bt x0 (wrap64 (x5 + 1)))).bind fun t238=>(if 0 ≤ (wrap64 (x5 + 2)) then (if (wrap64 (x5 + 2)) < (x0.size:Int) then ((spec_l1Hex.f k (bt x0 (wrap64 (x5 + 2)))).bind fun t239=>(spec_EscNorm.j2 k x0 x4 (wrap64 (x5 + 2)) (wrap64 ((wrap64 (t238 * 16)) + t239)))) else (none)) else (none))) else (none)) else (none))
end
def spec_EscNorm.f (k:Nat) (a0:ByteArray):Option (ByteArray × Bool):=if (a0.size:Int) > 60 then (some ((⟨#[]⟩:ByteArray),false)) else (spec_EscNorm.l0 k a0 (⟨#[]⟩:ByteArray) 0)
theorem spec_EscNorm.mono_l:∀ k,(∀ y0 y1 y2,LeO (spec_EscNorm.l0 k y0 y1 y2) (spec_EscNorm.l0 (k + 1) y0 y1 y2)) ∧ (∀ y0 y1 y2 y3,LeO (spec_EscNorm.j2 k y0 y1 y2 y3) (spec_EscNorm.j2 (k + 1) y0 y1 y2 y3)) ∧ (∀ y0 y1 y2 y3,LeO (spec_EscNorm.j1 k y0 y1 y2 y3) (spec_EscNorm.j1 (k + 1) y0 y1 y2 y3))
 | 0=>⟨fun _ _ _ r h=>by simp [spec_EscNorm.l0] at h,fun _ _ _ _ r h=>by simp [spec_EscNorm.j2] at h,fun _ _ _ _ r h=>by simp [spec_EscNorm.j1] at h⟩
 | k + 1=>by
  obtain ⟨ih0,ih1,ih2⟩:=spec_EscNorm.mono_l k
  refine ⟨?_,?_,?_⟩
  ·intro y0 y1 y2
   unfold spec_EscNorm.l0
   repeat' first
   | (with_reducible exact ih0 _ _ _)
   | (with_reducible exact ih1 _ _ _ _)
   | (with_reducible exact ih2 _ _ _ _)
   | (with_reducible exact spec_l1Hex.mono _ _)
   | (with_reducible exact LeO.refl _)
   | (with_reducible exact LeO.none _)
   | (with_reducible refine LeO.ite ?_ ?_)
   | (with_reducible refine LeO.bind ?_ (fun _=>?_))
   | exact ih0 _ _ _
   | exact ih1 _ _ _ _
   | exact ih2 _ _ _ _
   | exact spec_l1Hex.mono _ _
   | exact LeO.none _
   | refine LeO.ite ?_ ?_
   | refine LeO.bind ?_ (fun _=>?_)
  ·intro y0 y1 y2 y3
   unfold spec_EscNorm.j2
   repeat' first
   | (with_reducible exact ih0 _ _ _)
   | (with_reducible exact ih1 _ _ _ _)
   | (with_reducible exact ih2 _ _ _ _)
   | (with_reducible exact spec_l1Hex.mono _ _)
   | (with_reducible exact LeO.refl _)
   | (with_reducible exact LeO.none _)
   | (with_reducible refine LeO.ite ?_ ?_)
   | (with_reducible refine LeO.bind ?_ (fun _=>?_))
   | exact ih0 _ _ _
   | exact ih1 _ _ _ _
   | exact ih2 _ _ _ _
   | exact spec_l1Hex.mono _ _
   | exact LeO.none _
   | refine LeO.ite ?_ ?_
   | refine LeO.bind ?_ (fun _=>?_)
  ·intro y0 y1 y2 y3
   unfold spec_EscNorm.j1
   repeat' first
   | (with_reducible exact ih0 _ _ _)
   | (with_reducible exact ih1 _ _ _ _)
   | (with_reducible exact ih2 _ _ _ _)
   | (with_reducible exact spec_l1Hex.mono _ _)
   | (with_reducible exact LeO.refl _)
   | (with_reducible exact LeO.none _)
   | (with_reducible refine LeO.ite ?_ ?_)
   | (with_reducible refine LeO.bind ?_ (fun _=>?_))
   | exact ih0 _ _ _
   | exact ih1 _ _ _ _
   | exact ih2 _ _ _ _
   | exact spec_l1Hex.mono _ _
   | exact LeO.none _
   | refine LeO.ite ?_ ?_
   | refine LeO.bind ?_ (fun _=>?_)
theorem spec_EscNorm.mono:∀ a0 k,LeO (spec_EscNorm.f k a0) (spec_EscNorm.f (k + 1) a0):=by
 intro a0 k
 obtain ⟨ih0,ih1,ih2⟩:=spec_EscNorm.mono_l k
 unfold spec_EscNorm.f
 repeat' first
   | (with_reducible exact ih0 _ _ _)
   | (with_reducible exact ih1 _ _ _ _)
   | (with_reducible exact ih2 _ _ _ _)
   | (with_reducible exact spec_l1Hex.mono _ _)
   | (with_reducible exact LeO.refl _)
   | (with_reducible exact LeO.none _)
   | (with_reducible refine LeO.ite ?_ ?_)
   | (with_reducible refine LeO.bind ?_ (fun _=>?_))
   | exact ih0 _ _ _
   | exact ih1 _ _ _ _
   | exact ih2 _ _ _ _
   | exact spec_l1Hex.mono _ _
   | exact LeO.none _
   | refine LeO.ite ?_ ?_
   | refine LeO.bind ?_ (fun _=>?_)
theorem spec_EscNorm.calls (k:Nat) (a0:ByteArray) (r1:ByteArray) (r2:Bool) (w:World) (h:spec_EscNorm.f k a0 = some (r1,r2)) :
  Calls Tryd.prog 54 #[.string a0] w fun e w'=>e = .returned (.tuple #[.string r1,.bool r2]) ∧ Below w.heap.size w w':=by
 have HB:=Aside0.mk (Below.refl w.heap.size w)
 have H:(if (a0.size:Int) > 60 then (some ((⟨#[]⟩:ByteArray),false)) else (spec_EscNorm.l0 k a0 (⟨#[]⟩:ByteArray) 0)) = some (r1,r2):=h
 clear h
 by_cases c2:(a0.size:Int) > 60
 ·rw [if_pos c2] at H
  have c2b0:decide (60 < (a0.size:Int)) = true:=decide_eq_true c2
  have c2b1:decide (60 < a0.size) = true:=decide_eq_true (by omega)
  clear c2
  simp only [Option.some.injEq,Prod.mk.injEq] at H
  obtain ⟨rfl,rfl⟩:=H
  go_enter Tryd.func54,Tryd.ntmps54
  go_wp2
  repeat (go_quiet (fail);try go_wp2)
  go_ret2
  exact ⟨by first|rfl|(simp <;> rfl)|(simp [*] <;> rfl),by repeat (first|(with_reducible first|exact HB.out|apply below_alloc|apply pw_below_drewN|apply below_drew1)|exact HB.out)⟩
 ·rw [if_neg c2] at H
  have c2b0:decide (60 < (a0.size:Int)) = false:=decide_eq_false c2
  have c2b1:decide (60 < a0.size) = false:=decide_eq_false (by omega)
  clear c2
  have H':=Aside0.mk H
  clear H
  go_enter Tryd.func54,Tryd.ntmps54
  go_wp2
  repeat (go_quiet (fail);try go_wp2)
  go_loopg [4,5] k (fun kq v4 v5 w'=>∃ (x4_1:ByteArray) (x5_1:Int),v4 = .string x4_1 ∧ v5 = .int .i64 x5_1 ∧ Aside0 (spec_EscNorm.l0 kq a0 x4_1 x5_1 = some (r1,r2)) ∧ Aside0 (kq ≤ k) ∧ Aside0 (Below w.heap.size w w'))
  case atStart=>exact ⟨((⟨#[]⟩:ByteArray)),(0),(by first|rfl|(simp;done)|(simp only [i64_w,i32_w];done)|(simp only [i64_w,i32_w];rfl)|(simp [*];done)|(simp [emp_bne,emp_beq];done)),(by first|rfl|(simp;done)|(simp only [i64_w,i32_w];done)|(simp only [i64_w,i32_w];rfl)|(simp [*];done)|(simp [emp_bne,emp_beq];done)),H',⟨Nat.le_refl _⟩,⟨by repeat (first|(with_reducible first|exact HB.out|apply below_alloc|apply pw_below_drewN|apply below_drew1)|exact HB.out)⟩⟩
  case round =>
   clear H'
   try clear c2
   try clear c2b0
   try clear c2b1
   try clear p2
   obtain ⟨x4_1,x5_1,rfl,rfl,HA,HK1,HB⟩:=hrel
   cases gk with
   | zero=>exact absurd HA.out (by simp [spec_EscNorm.l0])
   | succ k1 =>
    have H:=HA.out
    clear HA
    simp only [spec_EscNorm.l0] at H
    by_cases c3:x5_1 < (a0.size:Int)
    ·rw [if_pos c3] at H
     have c3b0:decide (x5_1 < (a0.size:Int)) = true:=decide_eq_true c3
     clear c3
     by_cases c4:0 ≤ x5_1
     ·rw [if_pos c4] at H
      have c4b0:decide (0 ≤ x5_1) = true:=decide_eq_true c4
      clear c4
      have HC7:=Aside0.mk H
      clear H
      have p5:0 ≤ (x5_1:Int):=of_decide_eq_true (by first|(with_reducible assumption)|assumption)
      have q5:x5_1 < (a0.size:Int):=of_decide_eq_true (by first|(with_reducible assumption)|assumption)
      have hx5:=bt_at a0 x5_1
      replace p5:=eq_true p5
      replace q5:=eq_true q5
      have p6:0 ≤ (x5_1:Int):=of_decide_eq_true (by first|(with_reducible assumption)|assumption)
      have q6:x5_1 < (a0.size:Int):=of_decide_eq_true (by first|(with_reducible assumption)|assumption)
      have hx6:=bt_at a0 x5_1
      replace p6:=eq_true p6
      replace q6:=eq_true q6
      go_upto_if 23 with (fail)
      repeat (go_quiet (fail);go_upto_if 23 with (fail))
      go_cut [5,6] (fun v5 v6 wc=>∃ (kq:Nat) (x5_6:Int) (x6_6:Int),v5 = .int .i64 x5_6 ∧ v6 = .int .i64 x6_6 ∧ Aside0 (spec_EscNorm.j2 kq a0 x4_1 x5_6 x6_6 = some (r1,r2)) ∧ Aside0 (kq ≤ k1) ∧ Aside0 (Below w.heap.size w wc))
      case first =>
       have H:=HC7.out
       clear HC7
       by_cases c8:(bt a0 x5_1) = 37
       ·rw [if_pos c8] at H
        have c8b0:((bt a0 x5_1) == 37) = true:=beq_iff_eq.mpr c8
        have c8b1:((bt a0 x5_1) != 37) = false:=bne_eq_false_iff_eq.mpr c8
        clear c8
        (first|rw [c8b0]|(simp only [i64_w,i32_w];rw [c8b0])|skip)
        have HC9:=Aside0.mk H
        clear H
        go_upto_region 9 with (fail)
        repeat (go_quiet (fail);go_upto_region 9 with (fail))
        go_cut [44] (fun v44 wc=>∃ (kq:Nat) (x44_8:Bool),v44 = .bool x44_8 ∧ Aside0 (spec_EscNorm.j1 kq a0 x4_1 x5_1 x44_8 = some (r1,r2)) ∧ Aside0 (kq ≤ k1) ∧ Aside0 (Below w.heap.size w wc))
        case first =>
         have H:=HC9.out
         clear HC9
         by_cases c10:(wrap64 (x5_1 + 2)) ≥ (a0.size:Int)
         ·rw [if_pos c10] at H
          have c10b0:decide ((a0.size:Int) ≤ (wrap64 (x5_1 + 2))) = true:=decide_eq_true c10
          clear c10
          (first|rw [c10b0]|(simp only [i64_w,i32_w];rw [c10b0])|skip)
          have H':=Aside0.mk H
          clear H
          go_wp2
          repeat (go_quiet (fail);try go_wp2)
          go_meet
          case rel=>exact ⟨_,(true),(by first|rfl|(simp;done)|(simp only [i64_w,i32_w];done)|(simp only [i64_w,i32_w];rfl)|(simp [*];done)|(simp [emp_bne,emp_beq];done)),H',⟨by have:=HK1.out;first|omega|exact Nat.le_refl _⟩,⟨by repeat (first|(with_reducible first|exact HB.out|apply below_alloc|apply pw_below_drewN|apply below_drew1)|exact HB.out)⟩⟩
         ·rw [if_neg c10] at H
          have c10b0:decide ((a0.size:Int) ≤ (wrap64 (x5_1 + 2))) = false:=decide_eq_false c10
          clear c10
          (first|rw [c10b0]|(simp only [i64_w,i32_w];rw [c10b0])|skip)
          obtain ⟨ji11,hji11⟩:∃ j_:Int,(wrap64 (x5_1 + 1)) = j_:=⟨_,rfl⟩
          replace H:(if 0 ≤ (ji11) then (if (ji11) < (a0.size:Int) then ((spec_l1Hex.f k1 (bt a0 (ji11))).bind fun t236=>(if t236 < 0 then (spec_EscNorm.j1 k1 a0 x4_1 x5_1 true) else (if 0 ≤ (wrap64 (x5_1 + 2)) then (if (wrap64 (x5_1 + 2)) < (a0.size:Int) then ((spec_l1Hex.f k1 (bt a0 (wrap64 (x5_1 + 2)))).bind fun t237=>(spec_EscNorm.j1 k1 a0 x4_1 x5_1 (decide (t237 < 0)))) else (none)) else (none)))) else (none)) else (none)) = some (r1,r2):=by first|(rw [hji11] at H;exact H)|(simp only [hji11] at H ⊢;exact H)
          have hji11w:(IntKind.i64.wrap (x5_1 + 1)) = ji11:=(i64_w _).trans hji11
          by_cases c12:0 ≤ (ji11)
          ·rw [if_pos c12] at H
           have c12b0:decide (0 ≤ (ji11)) = true:=decide_eq_true c12
           clear c12
           by_cases c13:(ji11) < (a0.size:Int)
           ·rw [if_pos c13] at H
            have c13b0:decide ((ji11) < (a0.size:Int)) = true:=decide_eq_true c13
            clear c13
            replace H:=Option.bind_eq_some_iff.mp H
            obtain ⟨t236,A150,H⟩:=H
            replace H:(if t236 < 0 then (spec_EscNorm.j1 k1 a0 x4_1 x5_1 true) else (if 0 ≤ (wrap64 (x5_1 + 2)) then (if (wrap64 (x5_1 + 2)) < (a0.size:Int) then ((spec_l1Hex.f k1 (bt a0 (wrap64 (x5_1 + 2)))).bind fun t237=>(spec_EscNorm.j1 k1 a0 x4_1 x5_1 (decide (t237 < 0)))) else (none)) else (none))) = some (r1,r2):=H
            have A15:=Aside0.mk A150
            clear A150
            by_cases c16:t236 < 0
            ·rw [if_pos c16] at H
             have c16b0:decide (t236 < 0) = true:=decide_eq_true c16
             clear c16
             have H':=Aside0.mk H
             clear H
             have p14:0 ≤ ((ji11):Int):=of_decide_eq_true (by first|(with_reducible assumption)|assumption)
             have q14:(ji11) < (a0.size:Int):=of_decide_eq_true (by first|(with_reducible assumption)|assumption)
             have hx14:=bt_at a0 (ji11)
             replace p14:=eq_true p14
             replace q14:=eq_true q14
             go_wp2_with (first|(go_at_call 70;(with_reducible refine (spec_l1Hex.calls k1 (bt a0 (ji11)) t236 _ A15.out).mono ?_);rintro e w' ⟨rfl,⟨nd,rfl⟩⟩;(try first|exact ⟨rfl,_,World.drewN_drewN _ _ _⟩|exact ⟨rfl,_,Eq.trans (World.drewN_drewN _ _ _) (congrArg (World.drewN _) (Nat.add_assoc _ _ _))⟩)))
             repeat (go_quiet (first|(go_at_call 70;(with_reducible refine (spec_l1Hex.calls k1 (bt a0 (ji11)) t236 _ A15.out).mono ?_);rintro e w' ⟨rfl,⟨nd,rfl⟩⟩;(try first|exact ⟨rfl,_,World.drewN_drewN _ _ _⟩|exact ⟨rfl,_,Eq.trans (World.drewN_drewN _ _ _) (congrArg (World.drewN _) (Nat.add_assoc _ _ _))⟩)));try go_wp2_with (first|(go_at_call 70;(with_reducible refine (spec_l1Hex.calls k1 (bt a0 (ji11)) t236 _ A15.out).mono ?_);rintro e w' ⟨rfl,⟨nd,rfl⟩⟩;(try first|exact ⟨rfl,_,World.drewN_drewN _ _ _⟩|exact ⟨rfl,_,Eq.trans (World.drewN_drewN _ _ _) (congrArg (World.drewN _) (Nat.add_assoc _ _ _))⟩))))
             go_meet
             case rel=>exact ⟨_,(true),(by first|rfl|(simp;done)|(simp only [i64_w,i32_w];done)|(simp only [i64_w,i32_w];rfl)|(simp [*];done)|(simp [emp_bne,emp_beq];done)),H',⟨by have:=HK1.out;first|omega|exact Nat.le_refl _⟩,⟨by repeat (first|(with_reducible first|exact HB.out|apply below_alloc|apply pw_below_drewN|apply below_drew1)|exact HB.out)⟩⟩
            ·rw [if_neg c16] at H
             have c16b0:decide (t236 < 0) = false:=decide_eq_false c16
             clear c16
             obtain ⟨ji17,hji17⟩:∃ j_:Int,(wrap64 (x5_1 + 2)) = j_:=⟨_,rfl⟩
             replace H:(if 0 ≤ (ji17) then (if (ji17) < (a0.size:Int) then ((spec_l1Hex.f k1 (bt a0 (ji17))).bind fun t237=>(spec_EscNorm.j1 k1 a0 x4_1 x5_1 (decide (t237 < 0)))) else (none)) else (none)) = some (r1,r2):=by first|(rw [hji17] at H;exact H)|(simp only [hji17] at H ⊢;exact H)
             (try rw [hji17] at c10b0)
             (try rw [hji17] at A15)
             have hji17w:(IntKind.i64.wrap (x5_1 + 2)) = ji17:=(i64_w _).trans hji17
             by_cases c18:0 ≤ (ji17)
             ·rw [if_pos c18] at H
              have c18b0:decide (0 ≤ (ji17)) = true:=decide_eq_true c18
              clear c18
              by_cases c19:(ji17) < (a0.size:Int)
              ·rw [if_pos c19] at H
               have c19b0:decide ((ji17) < (a0.size:Int)) = true:=decide_eq_true c19
               clear c19
               replace H:=Option.bind_eq_some_iff.mp H
               obtain ⟨t237,A210,H⟩:=H
               replace H:(spec_EscNorm.j1 k1 a0 x4_1 x5_1 (decide (t237 < 0))) = some (r1,r2):=H
               have A21:=Aside0.mk A210
               clear A210
               have H':=Aside0.mk H
               clear H
               have p14:0 ≤ ((ji11):Int):=of_decide_eq_true (by first|(with_reducible assumption)|assumption)
               have q14:(ji11) < (a0.size:Int):=of_decide_eq_true (by first|(with_reducible assumption)|assumption)
               have hx14:=bt_at a0 (ji11)
               replace p14:=eq_true p14
               replace q14:=eq_true q14
               go_wp2_with (first|(go_at_call 70;(with_reducible refine (spec_l1Hex.calls k1 (bt a0 (ji11)) t236 _ A15.out).mono ?_);rintro e w' ⟨rfl,⟨nd,rfl⟩⟩;(try first|exact ⟨rfl,_,World.drewN_drewN _ _ _⟩|exact ⟨rfl,_,Eq.trans (World.drewN_drewN _ _ _) (congrArg (World.drewN _) (Nat.add_assoc _ _ _))⟩);have p20:0 ≤ ((ji17):Int):=of_decide_eq_true (by first|(with_reducible assumption)|assumption);have q20:(ji17) < (a0.size:Int):=of_decide_eq_true (by first|(with_reducible assumption)|assumption);have hx20:=bt_at a0 (ji17);replace p20:=eq_true p20;replace q20:=eq_true q20)|(go_at_call 70;(with_reducible refine (spec_l1Hex.calls k1 (bt a0 (ji17)) t237 _ A21.out).mono ?_);rintro e w' ⟨rfl,⟨nd,rfl⟩⟩;(try first|exact ⟨rfl,_,World.drewN_drewN _ _ _⟩|exact ⟨rfl,_,Eq.trans (World.drewN_drewN _ _ _) (congrArg (World.drewN _) (Nat.add_assoc _ _ _))⟩)))
               repeat (go_quiet (first|(go_at_call 70;(with_reducible refine (spec_l1Hex.calls k1 (bt a0 (ji11)) t236 _ A15.out).mono ?_);rintro e w' ⟨rfl,⟨nd,rfl⟩⟩;(try first|exact ⟨rfl,_,World.drewN_drewN _ _ _⟩|exact ⟨rfl,_,Eq.trans (World.drewN_drewN _ _ _) (congrArg (World.drewN _) (Nat.add_assoc _ _ _))⟩);have p20:0 ≤ ((ji17):Int):=of_decide_eq_true (by first|(with_reducible assumption)|assumption);have q20:(ji17) < (a0.size:Int):=of_decide_eq_true (by first|(with_reducible assumption)|assumption);have hx20:=bt_at a0 (ji17);replace p20:=eq_true p20;replace q20:=eq_true q20)|(go_at_call 70;(with_reducible refine (spec_l1Hex.calls k1 (bt a0 (ji17)) t237 _ A21.out).mono ?_);rintro e w' ⟨rfl,⟨nd,rfl⟩⟩;(try first|exact ⟨rfl,_,World.drewN_drewN _ _ _⟩|exact ⟨rfl,_,Eq.trans (World.drewN_drewN _ _ _) (congrArg (World.drewN _) (Nat.add_assoc _ _ _))⟩)));try go_wp2_with (first|(go_at_call 70;(with_reducible refine (spec_l1Hex.calls k1 (bt a0 (ji11)) t236 _ A15.out).mono ?_);rintro e w' ⟨rfl,⟨nd,rfl⟩⟩;(try first|exact ⟨rfl,_,World.drewN_drewN _ _ _⟩|exact ⟨rfl,_,Eq.trans (World.drewN_drewN _ _ _) (congrArg (World.drewN _) (Nat.add_assoc _ _ _))⟩);have p20:0 ≤ ((ji17):Int):=of_decide_eq_true (by first|(with_reducible assumption)|assumption);have q20:(ji17) < (a0.size:Int):=of_decide_eq_true (by first|(with_reducible assumption)|assumption);have hx20:=bt_at a0 (ji17);replace p20:=eq_true p20;replace q20:=eq_true q20)|(go_at_call 70;(with_reducible refine (spec_l1Hex.calls k1 (bt a0 (ji17)) t237 _ A21.out).mono ?_);rintro e w' ⟨rfl,⟨nd,rfl⟩⟩;(try first|exact ⟨rfl,_,World.drewN_drewN _ _ _⟩|exact ⟨rfl,_,Eq.trans (World.drewN_drewN _ _ _) (congrArg (World.drewN _) (Nat.add_assoc _ _ _))⟩))))
               go_meet
               case rel=>exact ⟨_,(decide (t237 < 0)),(by first|rfl|(simp;done)|(simp only [i64_w,i32_w];done)|(simp only [i64_w,i32_w];rfl)|(simp [*];done)|(simp [emp_bne,emp_beq];done)),H',⟨by have:=HK1.out;first|omega|exact Nat.le_refl _⟩,⟨by repeat (first|(with_reducible first|exact HB.out|apply below_alloc|apply pw_below_drewN|apply below_drew1)|exact HB.out)⟩⟩
              ·rw [if_neg c19] at H
               exact absurd H (by simp)
             ·rw [if_neg c18] at H
              exact absurd H (by simp)
           ·rw [if_neg c13] at H
            exact absurd H (by simp)
          ·rw [if_neg c12] at H
           exact absurd H (by simp)
        case rest =>
         clear HC9
         try clear c1
         try clear p1
         try clear q1
         try clear hx1
         try clear c2
         try clear c2b0
         try clear c2b1
         try clear p2
         try clear q2
         try clear hx2
         try clear c3
         try clear c3b0
         try clear c4
         try clear c4b0
         try clear c5
         try clear p5
         try clear q5
         try clear hx5
         try clear p6
         try clear q6
         try clear hx6
         try clear c8
         try clear c8b0
         try clear c8b1
         try clear c10
         try clear c10b0
         try clear c12
         try clear c12b0
         try clear c13
         try clear c13b0
         try clear p14
         try clear q14
         try clear hx14
         try clear c16
         try clear c16b0
         try clear c18
         try clear c18b0
         try clear c19
         try clear c19b0
         try clear p20
         try clear q20
         try clear hx20
         try clear p14
         try clear p2
         try clear p20
         try clear p5
         try clear p6
         try clear q14
         try clear q20
         try clear q5
         try clear q6
         obtain ⟨kq,x44_8,rfl,HA,HJ8,HB⟩:=hcut
         cases kq with
         | zero=>exact absurd HA.out (by simp [spec_EscNorm.j1])
         | succ kj8 =>
          have H:=HA.out
          clear HA
          simp only [spec_EscNorm.j1] at H
          by_cases c22:x44_8 = true
          ·subst c22
           have H1:(some ((⟨#[]⟩:ByteArray),false)) = some (r1,r2):=by rw [if_pos rfl] at H;exact H
           clear H
           have H:=H1
           clear H1
           simp only [Option.some.injEq,Prod.mk.injEq] at H
           obtain ⟨rfl,rfl⟩:=H
           go_wp2
           repeat (go_quiet (fail);try go_wp2)
           go_ret2
           exact ⟨by first|rfl|(simp <;> rfl)|(simp [*] <;> rfl),by repeat (first|(with_reducible first|exact HB.out|apply below_alloc|apply pw_below_drewN|apply below_drew1)|exact HB.out)⟩
          ·replace c22:=Bool.eq_false_iff.mpr c22
           subst c22
           have H1:(if 0 ≤ (wrap64 (x5_1 + 1)) then (if (wrap64 (x5_1 + 1)) < (a0.size:Int) then ((spec_l1Hex.f kj8 (bt a0 (wrap64 (x5_1 + 1)))).bind fun t238=>(if 0 ≤ (wrap64 (x5_1 + 2)) then (if (wrap64 (x5_1 + 2)) < (a0.size:Int) then ((spec_l1Hex.f kj8 (bt a0 (wrap64 (x5_1 + 2)))).bind fun t239=>(spec_EscNorm.j2 kj8 a0 x4_1 (wrap64 (x5_1 + 2)) (wrap64 ((wrap64 (t238 * 16)) + t239)))) else (none)) else (none))) else (none)) else (none)) = some (r1,r2):=by rw [if_neg (show ¬ (false = true) by decide)] at H;exact H
           clear H
           have H:=H1
           clear H1
           obtain ⟨ji23,hji23⟩:∃ j_:Int,(wrap64 (x5_1 + 1)) = j_:=⟨_,rfl⟩
           replace H:(if 0 ≤ (ji23) then (if (ji23) < (a0.size:Int) then ((spec_l1Hex.f kj8 (bt a0 (ji23))).bind fun t238=>(if 0 ≤ (wrap64 (x5_1 + 2)) then (if (wrap64 (x5_1 + 2)) < (a0.size:Int) then ((spec_l1Hex.f kj8 (bt a0 (wrap64 (x5_1 + 2)))).bind fun t239=>(spec_EscNorm.j2 kj8 a0 x4_1 (wrap64 (x5_1 + 2)) (wrap64 ((wrap64 (t238 * 16)) + t239)))) else (none)) else (none))) else (none)) else (none)) = some (r1,r2):=by first|(rw [hji23] at H;exact H)|(simp only [hji23] at H ⊢;exact H)
           have hji23w:(IntKind.i64.wrap (x5_1 + 1)) = ji23:=(i64_w _).trans hji23
           by_cases c24:0 ≤ (ji23)
           ·rw [if_pos c24] at H
            have c24b0:decide (0 ≤ (ji23)) = true:=decide_eq_true c24
            clear c24
            by_cases c25:(ji23) < (a0.size:Int)
            ·rw [if_pos c25] at H
             have c25b0:decide ((ji23) < (a0.size:Int)) = true:=decide_eq_true c25
             clear c25
             replace H:=Option.bind_eq_some_iff.mp H
             obtain ⟨t238,A270,H⟩:=H
             replace H:(if 0 ≤ (wrap64 (x5_1 + 2)) then (if (wrap64 (x5_1 + 2)) < (a0.size:Int) then ((spec_l1Hex.f kj8 (bt a0 (wrap64 (x5_1 + 2)))).bind fun t239=>(spec_EscNorm.j2 kj8 a0 x4_1 (wrap64 (x5_1 + 2)) (wrap64 ((wrap64 (t238 * 16)) + t239)))) else (none)) else (none)) = some (r1,r2):=H
             have A27:=Aside0.mk A270
             clear A270
             obtain ⟨ji28,hji28⟩:∃ j_:Int,(wrap64 (x5_1 + 2)) = j_:=⟨_,rfl⟩
             replace H:(if 0 ≤ (ji28) then (if (ji28) < (a0.size:Int) then ((spec_l1Hex.f kj8 (bt a0 (ji28))).bind fun t239=>(spec_EscNorm.j2 kj8 a0 x4_1 ji28 (wrap64 ((wrap64 (t238 * 16)) + t239)))) else (none)) else (none)) = some (r1,r2):=by first|(rw [hji28] at H;exact H)|(simp only [hji28] at H ⊢;exact H)
             (try rw [hji28] at A27)
             have hji28w:(IntKind.i64.wrap (x5_1 + 2)) = ji28:=(i64_w _).trans hji28
             by_cases c29:0 ≤ (ji28)
             ·rw [if_pos c29] at H
              have c29b0:decide (0 ≤ (ji28)) = true:=decide_eq_true c29
              clear c29
              by_cases c30:(ji28) < (a0.size:Int)
              ·rw [if_pos c30] at H
               have c30b0:decide ((ji28) < (a0.size:Int)) = true:=decide_eq_true c30
               clear c30
               replace H:=Option.bind_eq_some_iff.mp H
               obtain ⟨t239,A320,H⟩:=H
               replace H:(spec_EscNorm.j2 kj8 a0 x4_1 ji28 (wrap64 ((wrap64 (t238 * 16)) + t239))) = some (r1,r2):=H
               have A32:=Aside0.mk A320
               clear A320
               have H':=Aside0.mk H
               clear H
               have p26:0 ≤ ((ji23):Int):=of_decide_eq_true (by first|(with_reducible assumption)|assumption)
               have q26:(ji23) < (a0.size:Int):=of_decide_eq_true (by first|(with_reducible assumption)|assumption)
               have hx26:=bt_at a0 (ji23)
               replace p26:=eq_true p26
               replace q26:=eq_true q26
               go_wp2_with (first|(go_at_call 70;(with_reducible refine (spec_l1Hex.calls kj8 (bt a0 (ji23)) t238 _ A27.out).mono ?_);rintro e w' ⟨rfl,⟨nd,rfl⟩⟩;(try first|exact ⟨rfl,_,World.drewN_drewN _ _ _⟩|exact ⟨rfl,_,Eq.trans (World.drewN_drewN _ _ _) (congrArg (World.drewN _) (Nat.add_assoc _ _ _))⟩);have p31:0 ≤ ((ji28):Int):=of_decide_eq_true (by first|(with_reducible assumption)|assumption);have q31:(ji28) < (a0.size:Int):=of_decide_eq_true (by first|(with_reducible assumption)|assumption);have hx31:=bt_at a0 (ji28);replace p31:=eq_true p31;replace q31:=eq_true q31)|(go_at_call 70;(with_reducible refine (spec_l1Hex.calls kj8 (bt a0 (ji28)) t239 _ A32.out).mono ?_);rintro e w' ⟨rfl,⟨nd,rfl⟩⟩;(try first|exact ⟨rfl,_,World.drewN_drewN _ _ _⟩|exact ⟨rfl,_,Eq.trans (World.drewN_drewN _ _ _) (congrArg (World.drewN _) (Nat.add_assoc _ _ _))⟩)))
               repeat (go_quiet (first|(go_at_call 70;(with_reducible refine (spec_l1Hex.calls kj8 (bt a0 (ji23)) t238 _ A27.out).mono ?_);rintro e w' ⟨rfl,⟨nd,rfl⟩⟩;(try first|exact ⟨rfl,_,World.drewN_drewN _ _ _⟩|exact ⟨rfl,_,Eq.trans (World.drewN_drewN _ _ _) (congrArg (World.drewN _) (Nat.add_assoc _ _ _))⟩);have p31:0 ≤ ((ji28):Int):=of_decide_eq_true (by first|(with_reducible assumption)|assumption);have q31:(ji28) < (a0.size:Int):=of_decide_eq_true (by first|(with_reducible assumption)|assumption);have hx31:=bt_at a0 (ji28);replace p31:=eq_true p31;replace q31:=eq_true q31)|(go_at_call 70;(with_reducible refine (spec_l1Hex.calls kj8 (bt a0 (ji28)) t239 _ A32.out).mono ?_);rintro e w' ⟨rfl,⟨nd,rfl⟩⟩;(try first|exact ⟨rfl,_,World.drewN_drewN _ _ _⟩|exact ⟨rfl,_,Eq.trans (World.drewN_drewN _ _ _) (congrArg (World.drewN _) (Nat.add_assoc _ _ _))⟩)));try go_wp2_with (first|(go_at_call 70;(with_reducible refine (spec_l1Hex.calls kj8 (bt a0 (ji23)) t238 _ A27.out).mono ?_);rintro e w' ⟨rfl,⟨nd,rfl⟩⟩;(try first|exact ⟨rfl,_,World.drewN_drewN _ _ _⟩|exact ⟨rfl,_,Eq.trans (World.drewN_drewN _ _ _) (congrArg (World.drewN _) (Nat.add_assoc _ _ _))⟩);have p31:0 ≤ ((ji28):Int):=of_decide_eq_true (by first|(with_reducible assumption)|assumption);have q31:(ji28) < (a0.size:Int):=of_decide_eq_true (by first|(with_reducible assumption)|assumption);have hx31:=bt_at a0 (ji28);replace p31:=eq_true p31;replace q31:=eq_true q31)|(go_at_call 70;(with_reducible refine (spec_l1Hex.calls kj8 (bt a0 (ji28)) t239 _ A32.out).mono ?_);rintro e w' ⟨rfl,⟨nd,rfl⟩⟩;(try first|exact ⟨rfl,_,World.drewN_drewN _ _ _⟩|exact ⟨rfl,_,Eq.trans (World.drewN_drewN _ _ _) (congrArg (World.drewN _) (Nat.add_assoc _ _ _))⟩))))
               go_meet
               case rel=>exact ⟨_,(ji28),(wrap64 ((wrap64 (t238 * 16)) + t239)),(by first|rfl|(simp only [i64_w,i32_w];done)|(simp only [i64_w,i32_w];rfl)|(simp;done)|(simp only [← hji28] <;> (first|rfl|simp))|(simp [*];done)),(by first|rfl|(simp;done)|(simp only [i64_w,i32_w];done)|(simp only [i64_w,i32_w];rfl)|(simp [*];done)|(simp [emp_bne,emp_beq];done)),H',⟨by have:=HK1.out;have:=HJ8.out;first|omega|exact Nat.le_refl _⟩,⟨by repeat (first|(with_reducible first|exact HB.out|apply below_alloc|apply pw_below_drewN|apply below_drew1)|exact HB.out)⟩⟩
              ·rw [if_neg c30] at H
               exact absurd H (by simp)
             ·rw [if_neg c29] at H
              exact absurd H (by simp)
            ·rw [if_neg c25] at H
             exact absurd H (by simp)
           ·rw [if_neg c24] at H
            exact absurd H (by simp)
       ·rw [if_neg c8] at H
        have c8b0:((bt a0 x5_1) == 37) = false:=beq_eq_false_iff_ne.mpr c8
        have c8b1:((bt a0 x5_1) != 37) = true:=bne_iff_ne.mpr c8
        (first|rw [c8b0]|(simp only [i64_w,i32_w];rw [c8b0])|skip)
        have H':=Aside0.mk H
        clear H
        go_wp2
        repeat (go_quiet (fail);try go_wp2)
        go_meet
        case rel=>exact ⟨_,(x5_1),(wrap64 (bt a0 x5_1)),(by first|rfl|(simp;done)|(simp only [i64_w,i32_w];done)|(simp only [i64_w,i32_w];rfl)|(simp [*];done)|(simp [emp_bne,emp_beq];done)),(by first|rfl|(simp;done)|(simp only [i64_w,i32_w];done)|(simp only [i64_w,i32_w];rfl)|(simp [*];done)|(simp [emp_bne,emp_beq];done)),H',⟨by have:=HK1.out;first|omega|exact Nat.le_refl _⟩,⟨by repeat (first|(with_reducible first|exact HB.out|apply below_alloc|apply pw_below_drewN|apply below_drew1)|exact HB.out)⟩⟩
      case rest =>
       clear HC7
       try clear c1
       try clear p1
       try clear q1
       try clear hx1
       try clear c2
       try clear c2b0
       try clear c2b1
       try clear p2
       try clear q2
       try clear hx2
       try clear c3
       try clear c3b0
       try clear p3
       try clear q3
       try clear hx3
       try clear c4
       try clear c4b0
       try clear c5
       try clear p5
       try clear q5
       try clear hx5
       try clear p6
       try clear q6
       try clear hx6
       try clear c8
       try clear c8b0
       try clear c8b1
       try clear c10
       try clear c10b0
       try clear c12
       try clear c12b0
       try clear c13
       try clear c13b0
       try clear p14
       try clear q14
       try clear hx14
       try clear c16
       try clear c16b0
       try clear c18
       try clear c18b0
       try clear c19
       try clear c19b0
       try clear p20
       try clear q20
       try clear hx20
       try clear c22
       try clear c24
       try clear c24b0
       try clear c25
       try clear c25b0
       try clear p26
       try clear q26
       try clear hx26
       try clear c29
       try clear c29b0
       try clear c30
       try clear c30b0
       try clear p31
       try clear q31
       try clear hx31
       try clear p1
       try clear p14
       try clear p2
       try clear p20
       try clear p26
       try clear p31
       try clear p5
       try clear p6
       try clear q1
       try clear q14
       try clear q2
       try clear q20
       try clear q26
       try clear q31
       try clear q5
       try clear q6
       obtain ⟨kq,x5_6,x6_6,rfl,rfl,HA,HJ6,HB⟩:=hcut
       cases kq with
       | zero=>exact absurd HA.out (by simp [spec_EscNorm.j2])
       | succ kj6 =>
        have H:=HA.out
        clear HA
        simp only [spec_EscNorm.j2] at H
        replace H:=Option.bind_eq_some_iff.mp H
        obtain ⟨t240,A330,H⟩:=H
        replace H:(if t240 = true then ((some (([(x6_6) % 256]:List Int):List Int)).bind fun y241=>(if x4_1.size + (strOfNums y241).size ≤ 9223372036854775807 then (spec_EscNorm.l0 kj6 a0 (x4_1 ++ (strOfNums y241)) (wrap64 (x5_6 + 1))) else (none))) else ((spec_l1Sign.f x6_6).bind fun t244=>(if x4_1.size + t244.size ≤ 9223372036854775807 then (spec_EscNorm.l0 kj6 a0 (x4_1 ++ t244) (wrap64 (x5_6 + 1))) else (none)))) = some (r1,r2):=H
        have A33:=Aside0.mk A330
        clear A330
        by_cases c34:t240 = true
        ·subst c34
         have H1:((some (([(x6_6) % 256]:List Int):List Int)).bind fun y241=>(if x4_1.size + (strOfNums y241).size ≤ 9223372036854775807 then (spec_EscNorm.l0 kj6 a0 (x4_1 ++ (strOfNums y241)) (wrap64 (x5_6 + 1))) else (none))) = some (r1,r2):=by rw [if_pos rfl] at H;exact H
         clear H
         have H:=H1
         clear H1
         obtain ⟨y241,hy241⟩:∃ y_:List Int,y_ = (([(x6_6) % 256]:List Int)):=⟨_,rfl⟩
         replace H:(if x4_1.size + (strOfNums y241).size ≤ 9223372036854775807 then (spec_EscNorm.l0 kj6 a0 (x4_1 ++ (strOfNums y241)) (wrap64 (x5_6 + 1))) else (none)) = some (r1,r2):=by first|(rw [hy241];with_reducible exact H)|(have H2_:=(Option.bind_some _ _).symm.trans H;rw [hy241];with_reducible exact H2_)|(have H2_:=(Option.bind_some _ _).symm.trans H;with_reducible exact H2_)|with_reducible exact H|(rw [hy241];exact H)|exact H
         have Ny241:=Aside0.mk hy241
         clear hy241
         by_cases c35:x4_1.size + (strOfNums y241).size ≤ 9223372036854775807
         ·rw [if_pos c35] at H
          have c35b0:=eq_true c35
          have c35b1:=decide_eq_true c35
          try have c35b2:(9223372036854775807 < x4_1.size + (strOfNums y241).size) = False:=eq_false (Nat.not_lt.2 c35)
          have H':=Aside0.mk H
          clear H
          go_wp2_with (first|(go_at_call 71;(with_reducible refine (spec_l1Plain.calls ((x6_6) % 256) true _ A33.out).mono ?_);rintro e w' ⟨rfl,⟨nd,rfl⟩⟩;(try first|exact ⟨rfl,_,World.drewN_drewN _ _ _⟩|exact ⟨rfl,_,Eq.trans (World.drewN_drewN _ _ _) (congrArg (World.drewN _) (Nat.add_assoc _ _ _))⟩))|((with_reducible refine gate_dst (N:=65) rfl ?_);refine Kd.R_lit (Kd.int .u8) _ 5 ?hg (N:=65) ?hd (xs:=([(x6_6) % 256]:List Int)) (inner:=[.int .u8 ((x6_6) % 256)]) (ok:=fun _=>True) (okp:=fun _=>True) ?hr ?hp (fun _ hk=>hk) trivial (Below.refl _ _) (Nat.le_refl _) (by simp) ?_;(case hd=>rfl);(case hg=>rfl);(case hr=>first|(go_simp;done)|(go_simp;rfl));(case hp=>exact (Reps.one (show Kd.M (Kd.int .u8) _ _ _ ((x6_6) % 256) [.int .u8 ((x6_6) % 256)] from rfl) (Reps.none _ _)));intro v242 w36 ho37 hb hg_ hnew_;clear hg_ hnew_;(first|rw [← Ny241.out] at ho37|(simp only [Int.reduceToNat] at ho37;rw [← Ny241.out] at ho37));have n0_:=Aside0.mk (Kd.R_lower ho37 (below_size (by repeat (first|(with_reducible first|exact HB.out|apply below_alloc|apply pw_below_drewN|apply below_drew1)|exact HB.out))));have n1_:=Aside0.mk (below_step (by repeat (first|(with_reducible first|exact HB.out|apply below_alloc|apply pw_below_drewN|apply below_drew1)|exact HB.out)) hb);clear HB;have HO243:=n0_;have HB:=n1_;clear n0_ n1_;clear hb ho37;have hcv38:=own_string (P:=Tryd.prog) Tryd.underlying30 Tryd.underlying5 Tryd.underlying9 (Kd.own_of_R HO243.out)))
          repeat (go_quiet (first|(go_at_call 71;(with_reducible refine (spec_l1Plain.calls ((x6_6) % 256) true _ A33.out).mono ?_);rintro e w' ⟨rfl,⟨nd,rfl⟩⟩;(try first|exact ⟨rfl,_,World.drewN_drewN _ _ _⟩|exact ⟨rfl,_,Eq.trans (World.drewN_drewN _ _ _) (congrArg (World.drewN _) (Nat.add_assoc _ _ _))⟩))|((with_reducible refine gate_dst (N:=65) rfl ?_);refine Kd.R_lit (Kd.int .u8) _ 5 ?hg (N:=65) ?hd (xs:=([(x6_6) % 256]:List Int)) (inner:=[.int .u8 ((x6_6) % 256)]) (ok:=fun _=>True) (okp:=fun _=>True) ?hr ?hp (fun _ hk=>hk) trivial (Below.refl _ _) (Nat.le_refl _) (by simp) ?_;(case hd=>rfl);(case hg=>rfl);(case hr=>first|(go_simp;done)|(go_simp;rfl));(case hp=>exact (Reps.one (show Kd.M (Kd.int .u8) _ _ _ ((x6_6) % 256) [.int .u8 ((x6_6) % 256)] from rfl) (Reps.none _ _)));intro v242 w36 ho37 hb hg_ hnew_;clear hg_ hnew_;(first|rw [← Ny241.out] at ho37|(simp only [Int.reduceToNat] at ho37;rw [← Ny241.out] at ho37));have n0_:=Aside0.mk (Kd.R_lower ho37 (below_size (by repeat (first|(with_reducible first|exact HB.out|apply below_alloc|apply pw_below_drewN|apply below_drew1)|exact HB.out))));have n1_:=Aside0.mk (below_step (by repeat (first|(with_reducible first|exact HB.out|apply below_alloc|apply pw_below_drewN|apply below_drew1)|exact HB.out)) hb);clear HB;have HO243:=n0_;have HB:=n1_;clear n0_ n1_;clear hb ho37;have hcv38:=own_string (P:=Tryd.prog) Tryd.underlying30 Tryd.underlying5 Tryd.underlying9 (Kd.own_of_R HO243.out)));try go_wp2_with (first|(go_at_call 71;(with_reducible refine (spec_l1Plain.calls ((x6_6) % 256) true _ A33.out).mono ?_);rintro e w' ⟨rfl,⟨nd,rfl⟩⟩;(try first|exact ⟨rfl,_,World.drewN_drewN _ _ _⟩|exact ⟨rfl,_,Eq.trans (World.drewN_drewN _ _ _) (congrArg (World.drewN _) (Nat.add_assoc _ _ _))⟩))|((with_reducible refine gate_dst (N:=65) rfl ?_);refine Kd.R_lit (Kd.int .u8) _ 5 ?hg (N:=65) ?hd (xs:=([(x6_6) % 256]:List Int)) (inner:=[.int .u8 ((x6_6) % 256)]) (ok:=fun _=>True) (okp:=fun _=>True) ?hr ?hp (fun _ hk=>hk) trivial (Below.refl _ _) (Nat.le_refl _) (by simp) ?_;(case hd=>rfl);(case hg=>rfl);(case hr=>first|(go_simp;done)|(go_simp;rfl));(case hp=>exact (Reps.one (show Kd.M (Kd.int .u8) _ _ _ ((x6_6) % 256) [.int .u8 ((x6_6) % 256)] from rfl) (Reps.none _ _)));intro v242 w36 ho37 hb hg_ hnew_;clear hg_ hnew_;(first|rw [← Ny241.out] at ho37|(simp only [Int.reduceToNat] at ho37;rw [← Ny241.out] at ho37));have n0_:=Aside0.mk (Kd.R_lower ho37 (below_size (by repeat (first|(with_reducible first|exact HB.out|apply below_alloc|apply pw_below_drewN|apply below_drew1)|exact HB.out))));have n1_:=Aside0.mk (below_step (by repeat (first|(with_reducible first|exact HB.out|apply below_alloc|apply pw_below_drewN|apply below_drew1)|exact HB.out)) hb);clear HB;have HO243:=n0_;have HB:=n1_;clear n0_ n1_;clear hb ho37;have hcv38:=own_string (P:=Tryd.prog) Tryd.underlying30 Tryd.underlying5 Tryd.underlying9 (Kd.own_of_R HO243.out))))
          go_roundg kj6
          case measure=>have:=HK1.out;have:=HJ6.out;omega
          case rel=>exact ⟨(x4_1 ++ (strOfNums y241)),(wrap64 (x5_6 + 1)),(by first|rfl|(simp;done)|(simp only [i64_w,i32_w];done)|(simp only [i64_w,i32_w];rfl)|(simp [*];done)|(simp [emp_bne,emp_beq];done)),(by first|rfl|(simp;done)|(simp only [i64_w,i32_w];done)|(simp only [i64_w,i32_w];rfl)|(simp [*];done)|(simp [emp_bne,emp_beq];done)),H',⟨by have:=HK1.out;have:=HJ6.out;omega⟩,⟨by repeat (first|(with_reducible first|exact HB.out|apply below_alloc|apply pw_below_drewN|apply below_drew1)|exact HB.out)⟩⟩
         ·rw [if_neg c35] at H
          exact absurd H (by simp)
        ·replace c34:=Bool.eq_false_iff.mpr c34
         subst c34
         have H1:((spec_l1Sign.f x6_6).bind fun t244=>(if x4_1.size + t244.size ≤ 9223372036854775807 then (spec_EscNorm.l0 kj6 a0 (x4_1 ++ t244) (wrap64 (x5_6 + 1))) else (none))) = some (r1,r2):=by rw [if_neg (show ¬ (false = true) by decide)] at H;exact H
         clear H
         have H:=H1
         clear H1
         replace H:=Option.bind_eq_some_iff.mp H
         obtain ⟨t244,A390,H⟩:=H
         replace H:(if x4_1.size + t244.size ≤ 9223372036854775807 then (spec_EscNorm.l0 kj6 a0 (x4_1 ++ t244) (wrap64 (x5_6 + 1))) else (none)) = some (r1,r2):=H
         have A39:=Aside0.mk A390
         clear A390
         by_cases c40:x4_1.size + t244.size ≤ 9223372036854775807
         ·rw [if_pos c40] at H
          have c40b0:=eq_true c40
          have c40b1:=decide_eq_true c40
          try have c40b2:(9223372036854775807 < x4_1.size + t244.size) = False:=eq_false (Nat.not_lt.2 c40)
          have H':=Aside0.mk H
          clear H
          go_wp2_with (first|(go_at_call 71;(with_reducible refine (spec_l1Plain.calls ((x6_6) % 256) false _ A33.out).mono ?_);rintro e w' ⟨rfl,⟨nd,rfl⟩⟩;(try first|exact ⟨rfl,_,World.drewN_drewN _ _ _⟩|exact ⟨rfl,_,Eq.trans (World.drewN_drewN _ _ _) (congrArg (World.drewN _) (Nat.add_assoc _ _ _))⟩))|(go_at_call 72;(with_reducible refine (spec_l1Sign.calls x6_6 t244 _ A39.out).mono ?_);rintro e w' ⟨rfl,⟨nd,rfl⟩⟩;(try first|exact ⟨rfl,_,World.drewN_drewN _ _ _⟩|exact ⟨rfl,_,Eq.trans (World.drewN_drewN _ _ _) (congrArg (World.drewN _) (Nat.add_assoc _ _ _))⟩)))
          repeat (go_quiet (first|(go_at_call 71;(with_reducible refine (spec_l1Plain.calls ((x6_6) % 256) false _ A33.out).mono ?_);rintro e w' ⟨rfl,⟨nd,rfl⟩⟩;(try first|exact ⟨rfl,_,World.drewN_drewN _ _ _⟩|exact ⟨rfl,_,Eq.trans (World.drewN_drewN _ _ _) (congrArg (World.drewN _) (Nat.add_assoc _ _ _))⟩))|(go_at_call 72;(with_reducible refine (spec_l1Sign.calls x6_6 t244 _ A39.out).mono ?_);rintro e w' ⟨rfl,⟨nd,rfl⟩⟩;(try first|exact ⟨rfl,_,World.drewN_drewN _ _ _⟩|exact ⟨rfl,_,Eq.trans (World.drewN_drewN _ _ _) (congrArg (World.drewN _) (Nat.add_assoc _ _ _))⟩)));try go_wp2_with (first|(go_at_call 71;(with_reducible refine (spec_l1Plain.calls ((x6_6) % 256) false _ A33.out).mono ?_);rintro e w' ⟨rfl,⟨nd,rfl⟩⟩;(try first|exact ⟨rfl,_,World.drewN_drewN _ _ _⟩|exact ⟨rfl,_,Eq.trans (World.drewN_drewN _ _ _) (congrArg (World.drewN _) (Nat.add_assoc _ _ _))⟩))|(go_at_call 72;(with_reducible refine (spec_l1Sign.calls x6_6 t244 _ A39.out).mono ?_);rintro e w' ⟨rfl,⟨nd,rfl⟩⟩;(try first|exact ⟨rfl,_,World.drewN_drewN _ _ _⟩|exact ⟨rfl,_,Eq.trans (World.drewN_drewN _ _ _) (congrArg (World.drewN _) (Nat.add_assoc _ _ _))⟩))))
          go_roundg kj6
          case measure=>have:=HK1.out;have:=HJ6.out;omega
          case rel=>exact ⟨(x4_1 ++ t244),(wrap64 (x5_6 + 1)),(by first|rfl|(simp;done)|(simp only [i64_w,i32_w];done)|(simp only [i64_w,i32_w];rfl)|(simp [*];done)|(simp [emp_bne,emp_beq];done)),(by first|rfl|(simp;done)|(simp only [i64_w,i32_w];done)|(simp only [i64_w,i32_w];rfl)|(simp [*];done)|(simp [emp_bne,emp_beq];done)),H',⟨by have:=HK1.out;have:=HJ6.out;omega⟩,⟨by repeat (first|(with_reducible first|exact HB.out|apply below_alloc|apply pw_below_drewN|apply below_drew1)|exact HB.out)⟩⟩
         ·rw [if_neg c40] at H
          exact absurd H (by simp)
     ·rw [if_neg c4] at H
      exact absurd H (by simp)
    ·rw [if_neg c3] at H
     have c3b0:decide (x5_1 < (a0.size:Int)) = false:=decide_eq_false c3
     clear c3
     simp only [Option.some.injEq,Prod.mk.injEq] at H
     obtain ⟨rfl,rfl⟩:=H
     go_wp2
     repeat (go_quiet (fail);try go_wp2)
     go_ret2
     exact ⟨by first|rfl|(simp <;> rfl)|(simp [*] <;> rfl),by repeat (first|(with_reducible first|exact HB.out|apply below_alloc|apply pw_below_drewN|apply below_drew1)|exact HB.out)⟩

/-! ### spec_l1Norm: function 49 -/
def spec_l1Norm.f (k:Nat) (a0:ByteArray):Option (Bool):=(spec_EscNorm.f k a0).bind fun bt245=>(if bt245.2 = true then (some (bt245.1.toList == a0.toList)) else (some false))
theorem spec_l1Norm.mono:∀ a0 k,LeO (spec_l1Norm.f k a0) (spec_l1Norm.f (k + 1) a0):=by
 intro a0 k
 unfold spec_l1Norm.f
 repeat' first
   | (with_reducible exact spec_EscNorm.mono _ _)
   | (with_reducible exact LeO.refl _)
   | (with_reducible exact LeO.none _)
   | (with_reducible refine LeO.ite ?_ ?_)
   | (with_reducible refine LeO.bind ?_ (fun _=>?_))
   | exact spec_EscNorm.mono _ _
   | exact LeO.none _
   | refine LeO.ite ?_ ?_
   | refine LeO.bind ?_ (fun _=>?_)
theorem spec_l1Norm.calls (k:Nat) (a0:ByteArray) (r:Bool) (w:World) (h:spec_l1Norm.f k a0 = some r) :
  Calls Tryd.prog 49 #[.string a0] w fun e w'=>e = .returned (.bool r) ∧ Below w.heap.size w w':=by
 have HB:=Aside0.mk (Below.refl w.heap.size w)
 have H:((spec_EscNorm.f k a0).bind fun bt245=>(if bt245.2 = true then (some (bt245.1.toList == a0.toList)) else (some false))) = some r:=h
 clear h
 replace H:=Option.bind_eq_some_iff.mp H
 obtain ⟨⟨t245,t246⟩,A20,H⟩:=H
 replace H:(if t246 = true then (some (t245.toList == a0.toList)) else (some false)) = some r:=H
 have A2:=Aside0.mk A20
 clear A20
 by_cases c3:t246 = true
 ·subst c3
  have H1:(some (t245.toList == a0.toList)) = some r:=by rw [if_pos rfl] at H;exact H
  clear H
  have H:=H1
  clear H1
  obtain rfl:=Option.some.inj H
  go_enter Tryd.func49,Tryd.ntmps49
  go_wp2_with (first|((with_reducible refine gate_callee (f:=54) rfl ?_);refine goesL_ (some 7) rfl rfl Tryd.func54 (by kernel_rfl) rfl #[.string a0] rfl (by (try simp only [List.map_toArray,List.map_cons,List.map_nil]);first|done|rfl|(simp only [List.length_drop,List.length_take];rfl)) ?_;(with_reducible refine (spec_EscNorm.calls k a0 t245 true _ A2.out).mono ?_);rintro e w4 ⟨rfl,hb⟩;refine ⟨_,rfl,?_⟩;have n0_:=Aside0.mk (below_step (by repeat (first|(with_reducible first|exact HB.out|apply below_alloc|apply pw_below_drewN|apply below_drew1)|exact HB.out)) hb);clear HB;have HB:=n0_;clear n0_;(try clear hb);(try clear hb2);(try clear hk);(try clear hi)))
  go_ret
  exact ⟨by first|rfl|(simp <;> rfl)|(simp [*] <;> rfl),by repeat (first|(with_reducible first|exact HB.out|apply below_alloc|apply pw_below_drewN|apply below_drew1)|exact HB.out)⟩
 ·replace c3:=Bool.eq_false_iff.mpr c3
  subst c3
  have H1:(some false) = some r:=by rw [if_neg (show ¬ (false = true) by decide)] at H;exact H
  clear H
  have H:=H1
  clear H1
  obtain rfl:=Option.some.inj H
  go_enter Tryd.func49,Tryd.ntmps49
  go_wp2_with (first|((with_reducible refine gate_callee (f:=54) rfl ?_);refine goesL_ (some 7) rfl rfl Tryd.func54 (by kernel_rfl) rfl #[.string a0] rfl (by (try simp only [List.map_toArray,List.map_cons,List.map_nil]);first|done|rfl|(simp only [List.length_drop,List.length_take];rfl)) ?_;(with_reducible refine (spec_EscNorm.calls k a0 t245 false _ A2.out).mono ?_);rintro e w5 ⟨rfl,hb⟩;refine ⟨_,rfl,?_⟩;have n0_:=Aside0.mk (below_step (by repeat (first|(with_reducible first|exact HB.out|apply below_alloc|apply pw_below_drewN|apply below_drew1)|exact HB.out)) hb);clear HB;have HB:=n0_;clear n0_;(try clear hb);(try clear hb2);(try clear hk);(try clear hi)))
  go_ret
  exact ⟨by first|rfl|(simp <;> rfl)|(simp [*] <;> rfl),by repeat (first|(with_reducible first|exact HB.out|apply below_alloc|apply pw_below_drewN|apply below_drew1)|exact HB.out)⟩

end Go.Proofs.YtochmlkladpfgaaDoor.P
