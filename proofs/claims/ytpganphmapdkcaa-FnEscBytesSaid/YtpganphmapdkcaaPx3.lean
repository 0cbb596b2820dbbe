-- Written by a program of this session (patch_print.py over the kit's print; given texts in wip/given).
import Derived.Test.YtpganphmapdkcaaPx0
namespace Go.Proofs.Ytpganphmapdkcaa.P
open Go.RowKit Go.Proofs.YtpganphmapdkcaaW.PrintWords Go.Proofs.YtpganphmapdkcaaW.PrintLast Go.Proofs.YtpganphmapdkcaaW.PrintMore
attribute [local go_sem] max2_int min2_int max_two min_two max_three min_three max_four min_four   -- for this text's walks alone
set_option linter.unusedVariables false
set_option linter.unusedSimpArgs false

/-! ### spec_l1Plain: function 33 -/
def spec_l1Plain.f (a0 : Int) : Option (Bool) := if a0 ≥ 97 then (if a0 ≤ 122 then (some true) else (if a0 ≥ 48 then (if a0 ≤ 57 then (some true) else (if a0 = 46 then (some true) else (some (a0 == 45)))) else (if a0 = 46 then (some true) else (some (a0 == 45))))) else (if a0 ≥ 48 then (if a0 ≤ 57 then (some true) else (if a0 = 46 then (some true) else (some (a0 == 45)))) else (if a0 = 46 then (some true) else (some (a0 == 45))))
set_option maxHeartbeats 8000000 in
set_option maxRecDepth 100000 in
theorem spec_l1Plain.calls (a0 : Int) (r : Bool) (w : World) (h : spec_l1Plain.f a0 = some r) :
    Calls Try.prog 33 #[.int .u8 a0] w fun e w' => e = .returned (.bool r) ∧ Drawn0 w w' := by
  have H : (if a0 ≥ 97 then (if a0 ≤ 122 then (some true) else (if a0 ≥ 48 then (if a0 ≤ 57 then (some true) else (if a0 = 46 then (some true) else (some (a0 == 45)))) else (if a0 = 46 then (some true) else (some (a0 == 45))))) else (if a0 ≥ 48 then (if a0 ≤ 57 then (some true) else (if a0 = 46 then (some true) else (some (a0 == 45)))) else (if a0 = 46 then (some true) else (some (a0 == 45))))) = some r := h
  clear h
  by_cases c2 : a0 ≥ 97
  · rw [if_pos c2] at H
    have c2b0 : decide (97 ≤ a0) = true := decide_eq_true c2
    clear c2
    by_cases c3 : a0 ≤ 122
    · rw [if_pos c3] at H
      have c3b0 : decide (a0 ≤ 122) = true := decide_eq_true c3
      clear c3
      obtain rfl := Option.some.inj H
      go_enter Try.func33, Try.ntmps33
      go_wp2
      go_ret
      exact ⟨by first | rfl | (simp; done) | (simp only [i64_w, i32_w]; done) | (simp only [i64_w, i32_w]; rfl) | (simp [*]; done), by repeat (first | exact Drawn0.refl _ | apply Drawn0.step)⟩
    · rw [if_neg c3] at H
      have c3b0 : decide (a0 ≤ 122) = false := decide_eq_false c3
      clear c3
      by_cases c4 : a0 ≥ 48
      · rw [if_pos c4] at H
        have c4b0 : decide (48 ≤ a0) = true := decide_eq_true c4
        clear c4
        by_cases c5 : a0 ≤ 57
        · rw [if_pos c5] at H
          have c5b0 : decide (a0 ≤ 57) = true := decide_eq_true c5
          clear c5
          obtain rfl := Option.some.inj H
          go_enter Try.func33, Try.ntmps33
          go_wp2
          go_ret
          exact ⟨by first | rfl | (simp; done) | (simp only [i64_w, i32_w]; done) | (simp only [i64_w, i32_w]; rfl) | (simp [*]; done), by repeat (first | exact Drawn0.refl _ | apply Drawn0.step)⟩
        · rw [if_neg c5] at H
          have c5b0 : decide (a0 ≤ 57) = false := decide_eq_false c5
          clear c5
          by_cases c6 : a0 = 46
          · rw [if_pos c6] at H
            have c6b0 : (a0 == 46) = true := beq_iff_eq.mpr c6
            have c6b1 : (a0 != 46) = false := bne_eq_false_iff_eq.mpr c6
            clear c6
            obtain rfl := Option.some.inj H
            go_enter Try.func33, Try.ntmps33
            go_wp2
            go_ret
            exact ⟨by first | rfl | (simp; done) | (simp only [i64_w, i32_w]; done) | (simp only [i64_w, i32_w]; rfl) | (simp [*]; done), by repeat (first | exact Drawn0.refl _ | apply Drawn0.step)⟩
          · rw [if_neg c6] at H
            have c6b0 : (a0 == 46) = false := beq_eq_false_iff_ne.mpr c6
            have c6b1 : (a0 != 46) = true := bne_iff_ne.mpr c6
            obtain rfl := Option.some.inj H
            go_enter Try.func33, Try.ntmps33
            go_wp2
            go_ret
            exact ⟨by first | rfl | (simp; done) | (simp only [i64_w, i32_w]; done) | (simp only [i64_w, i32_w]; rfl) | (simp [*]; done), by repeat (first | exact Drawn0.refl _ | apply Drawn0.step)⟩
      · rw [if_neg c4] at H
        have c4b0 : decide (48 ≤ a0) = false := decide_eq_false c4
        clear c4
        by_cases c7 : a0 = 46
        · rw [if_pos c7] at H
          have c7b0 : (a0 == 46) = true := beq_iff_eq.mpr c7
          have c7b1 : (a0 != 46) = false := bne_eq_false_iff_eq.mpr c7
          clear c7
          obtain rfl := Option.some.inj H
          go_enter Try.func33, Try.ntmps33
          go_wp2
          go_ret
          exact ⟨by first | rfl | (simp; done) | (simp only [i64_w, i32_w]; done) | (simp only [i64_w, i32_w]; rfl) | (simp [*]; done), by repeat (first | exact Drawn0.refl _ | apply Drawn0.step)⟩
        · rw [if_neg c7] at H
          have c7b0 : (a0 == 46) = false := beq_eq_false_iff_ne.mpr c7
          have c7b1 : (a0 != 46) = true := bne_iff_ne.mpr c7
          obtain rfl := Option.some.inj H
          go_enter Try.func33, Try.ntmps33
          go_wp2
          go_ret
          exact ⟨by first | rfl | (simp; done) | (simp only [i64_w, i32_w]; done) | (simp only [i64_w, i32_w]; rfl) | (simp [*]; done), by repeat (first | exact Drawn0.refl _ | apply Drawn0.step)⟩
  · rw [if_neg c2] at H
    have c2b0 : decide (97 ≤ a0) = false := decide_eq_false c2
    clear c2
    by_cases c8 : a0 ≥ 48
    · rw [if_pos c8] at H
      have c8b0 : decide (48 ≤ a0) = true := decide_eq_true c8
      clear c8
      by_cases c9 : a0 ≤ 57
      · rw [if_pos c9] at H
        have c9b0 : decide (a0 ≤ 57) = true := decide_eq_true c9
        clear c9
        obtain rfl := Option.some.inj H
        go_enter Try.func33, Try.ntmps33
        go_wp2
        go_ret
        exact ⟨by first | rfl | (simp; done) | (simp only [i64_w, i32_w]; done) | (simp only [i64_w, i32_w]; rfl) | (simp [*]; done), by repeat (first | exact Drawn0.refl _ | apply Drawn0.step)⟩
      · rw [if_neg c9] at H
        have c9b0 : decide (a0 ≤ 57) = false := decide_eq_false c9
        clear c9
        by_cases c10 : a0 = 46
        · rw [if_pos c10] at H
          have c10b0 : (a0 == 46) = true := beq_iff_eq.mpr c10
          have c10b1 : (a0 != 46) = false := bne_eq_false_iff_eq.mpr c10
          clear c10
          obtain rfl := Option.some.inj H
          go_enter Try.func33, Try.ntmps33
          go_wp2
          go_ret
          exact ⟨by first | rfl | (simp; done) | (simp only [i64_w, i32_w]; done) | (simp only [i64_w, i32_w]; rfl) | (simp [*]; done), by repeat (first | exact Drawn0.refl _ | apply Drawn0.step)⟩
        · rw [if_neg c10] at H
          have c10b0 : (a0 == 46) = false := beq_eq_false_iff_ne.mpr c10
          have c10b1 : (a0 != 46) = true := bne_iff_ne.mpr c10
          obtain rfl := Option.some.inj H
          go_enter Try.func33, Try.ntmps33
          go_wp2
          go_ret
          exact ⟨by first | rfl | (simp; done) | (simp only [i64_w, i32_w]; done) | (simp only [i64_w, i32_w]; rfl) | (simp [*]; done), by repeat (first | exact Drawn0.refl _ | apply Drawn0.step)⟩
    · rw [if_neg c8] at H
      have c8b0 : decide (48 ≤ a0) = false := decide_eq_false c8
      clear c8
      by_cases c11 : a0 = 46
      · rw [if_pos c11] at H
        have c11b0 : (a0 == 46) = true := beq_iff_eq.mpr c11
        have c11b1 : (a0 != 46) = false := bne_eq_false_iff_eq.mpr c11
        clear c11
        obtain rfl := Option.some.inj H
        go_enter Try.func33, Try.ntmps33
        go_wp2
        go_ret
        exact ⟨by first | rfl | (simp; done) | (simp only [i64_w, i32_w]; done) | (simp only [i64_w, i32_w]; rfl) | (simp [*]; done), by repeat (first | exact Drawn0.refl _ | apply Drawn0.step)⟩
      · rw [if_neg c11] at H
        have c11b0 : (a0 == 46) = false := beq_eq_false_iff_ne.mpr c11
        have c11b1 : (a0 != 46) = true := bne_iff_ne.mpr c11
        obtain rfl := Option.some.inj H
        go_enter Try.func33, Try.ntmps33
        go_wp2
        go_ret
        exact ⟨by first | rfl | (simp; done) | (simp only [i64_w, i32_w]; done) | (simp only [i64_w, i32_w]; rfl) | (simp [*]; done), by repeat (first | exact Drawn0.refl _ | apply Drawn0.step)⟩

/-! ### impl_standsForItself: function 44 -/
def impl_standsForItself.f (a0 : Int) : Option (Bool) := if a0 ≥ 97 then (if a0 ≤ 122 then (some true) else (if a0 ≥ 48 then (if a0 ≤ 57 then (some true) else (if a0 = 46 then (some true) else (some (a0 == 45)))) else (if a0 = 46 then (some true) else (some (a0 == 45))))) else (if a0 ≥ 48 then (if a0 ≤ 57 then (some true) else (if a0 = 46 then (some true) else (some (a0 == 45)))) else (if a0 = 46 then (some true) else (some (a0 == 45))))
set_option maxHeartbeats 8000000 in
set_option maxRecDepth 100000 in
theorem impl_standsForItself.calls (a0 : Int) (r : Bool) (w : World) (h : impl_standsForItself.f a0 = some r) :
    Calls Try.prog 44 #[.int .u8 a0] w fun e w' => e = .returned (.bool r) ∧ Drawn0 w w' := by
  have H : (if a0 ≥ 97 then (if a0 ≤ 122 then (some true) else (if a0 ≥ 48 then (if a0 ≤ 57 then (some true) else (if a0 = 46 then (some true) else (some (a0 == 45)))) else (if a0 = 46 then (some true) else (some (a0 == 45))))) else (if a0 ≥ 48 then (if a0 ≤ 57 then (some true) else (if a0 = 46 then (some true) else (some (a0 == 45)))) else (if a0 = 46 then (some true) else (some (a0 == 45))))) = some r := h
  clear h
  by_cases c2 : a0 ≥ 97
  · rw [if_pos c2] at H
    have c2b0 : decide (97 ≤ a0) = true := decide_eq_true c2
    clear c2
    by_cases c3 : a0 ≤ 122
    · rw [if_pos c3] at H
      have c3b0 : decide (a0 ≤ 122) = true := decide_eq_true c3
      clear c3
      obtain rfl := Option.some.inj H
      go_enter Try.func44, Try.ntmps44
      go_wp2
      go_ret
      exact ⟨by first | rfl | (simp; done) | (simp only [i64_w, i32_w]; done) | (simp only [i64_w, i32_w]; rfl) | (simp [*]; done), by repeat (first | exact Drawn0.refl _ | apply Drawn0.step)⟩
    · rw [if_neg c3] at H
      have c3b0 : decide (a0 ≤ 122) = false := decide_eq_false c3
      clear c3
      by_cases c4 : a0 ≥ 48
      · rw [if_pos c4] at H
        have c4b0 : decide (48 ≤ a0) = true := decide_eq_true c4
        clear c4
        by_cases c5 : a0 ≤ 57
        · rw [if_pos c5] at H
          have c5b0 : decide (a0 ≤ 57) = true := decide_eq_true c5
          clear c5
          obtain rfl := Option.some.inj H
          go_enter Try.func44, Try.ntmps44
          go_wp2
          go_ret
          exact ⟨by first | rfl | (simp; done) | (simp only [i64_w, i32_w]; done) | (simp only [i64_w, i32_w]; rfl) | (simp [*]; done), by repeat (first | exact Drawn0.refl _ | apply Drawn0.step)⟩
        · rw [if_neg c5] at H
          have c5b0 : decide (a0 ≤ 57) = false := decide_eq_false c5
          clear c5
          by_cases c6 : a0 = 46
          · rw [if_pos c6] at H
            have c6b0 : (a0 == 46) = true := beq_iff_eq.mpr c6
            have c6b1 : (a0 != 46) = false := bne_eq_false_iff_eq.mpr c6
            clear c6
            obtain rfl := Option.some.inj H
            go_enter Try.func44, Try.ntmps44
            go_wp2
            go_ret
            exact ⟨by first | rfl | (simp; done) | (simp only [i64_w, i32_w]; done) | (simp only [i64_w, i32_w]; rfl) | (simp [*]; done), by repeat (first | exact Drawn0.refl _ | apply Drawn0.step)⟩
          · rw [if_neg c6] at H
            have c6b0 : (a0 == 46) = false := beq_eq_false_iff_ne.mpr c6
            have c6b1 : (a0 != 46) = true := bne_iff_ne.mpr c6
            obtain rfl := Option.some.inj H
            go_enter Try.func44, Try.ntmps44
            go_wp2
            go_ret
            exact ⟨by first | rfl | (simp; done) | (simp only [i64_w, i32_w]; done) | (simp only [i64_w, i32_w]; rfl) | (simp [*]; done), by repeat (first | exact Drawn0.refl _ | apply Drawn0.step)⟩
      · rw [if_neg c4] at H
        have c4b0 : decide (48 ≤ a0) = false := decide_eq_false c4
        clear c4
        by_cases c7 : a0 = 46
        · rw [if_pos c7] at H
          have c7b0 : (a0 == 46) = true := beq_iff_eq.mpr c7
          have c7b1 : (a0 != 46) = false := bne_eq_false_iff_eq.mpr c7
          clear c7
          obtain rfl := Option.some.inj H
          go_enter Try.func44, Try.ntmps44
          go_wp2
          go_ret
          exact ⟨by first | rfl | (simp; done) | (simp only [i64_w, i32_w]; done) | (simp only [i64_w, i32_w]; rfl) | (simp [*]; done), by repeat (first | exact Drawn0.refl _ | apply Drawn0.step)⟩
        · rw [if_neg c7] at H
          have c7b0 : (a0 == 46) = false := beq_eq_false_iff_ne.mpr c7
          have c7b1 : (a0 != 46) = true := bne_iff_ne.mpr c7
          obtain rfl := Option.some.inj H
          go_enter Try.func44, Try.ntmps44
          go_wp2
          go_ret
          exact ⟨by first | rfl | (simp; done) | (simp only [i64_w, i32_w]; done) | (simp only [i64_w, i32_w]; rfl) | (simp [*]; done), by repeat (first | exact Drawn0.refl _ | apply Drawn0.step)⟩
  · rw [if_neg c2] at H
    have c2b0 : decide (97 ≤ a0) = false := decide_eq_false c2
    clear c2
    by_cases c8 : a0 ≥ 48
    · rw [if_pos c8] at H
      have c8b0 : decide (48 ≤ a0) = true := decide_eq_true c8
      clear c8
      by_cases c9 : a0 ≤ 57
      · rw [if_pos c9] at H
        have c9b0 : decide (a0 ≤ 57) = true := decide_eq_true c9
        clear c9
        obtain rfl := Option.some.inj H
        go_enter Try.func44, Try.ntmps44
        go_wp2
        go_ret
        exact ⟨by first | rfl | (simp; done) | (simp only [i64_w, i32_w]; done) | (simp only [i64_w, i32_w]; rfl) | (simp [*]; done), by repeat (first | exact Drawn0.refl _ | apply Drawn0.step)⟩
      · rw [if_neg c9] at H
        have c9b0 : decide (a0 ≤ 57) = false := decide_eq_false c9
        clear c9
        by_cases c10 : a0 = 46
        · rw [if_pos c10] at H
          have c10b0 : (a0 == 46) = true := beq_iff_eq.mpr c10
          have c10b1 : (a0 != 46) = false := bne_eq_false_iff_eq.mpr c10
          clear c10
          obtain rfl := Option.some.inj H
          go_enter Try.func44, Try.ntmps44
          go_wp2
          go_ret
          exact ⟨by first | rfl | (simp; done) | (simp only [i64_w, i32_w]; done) | (simp only [i64_w, i32_w]; rfl) | (simp [*]; done), by repeat (first | exact Drawn0.refl _ | apply Drawn0.step)⟩
        · rw [if_neg c10] at H
          have c10b0 : (a0 == 46) = false := beq_eq_false_iff_ne.mpr c10
          have c10b1 : (a0 != 46) = true := bne_iff_ne.mpr c10
          obtain rfl := Option.some.inj H
          go_enter Try.func44, Try.ntmps44
          go_wp2
          go_ret
          exact ⟨by first | rfl | (simp; done) | (simp only [i64_w, i32_w]; done) | (simp only [i64_w, i32_w]; rfl) | (simp [*]; done), by repeat (first | exact Drawn0.refl _ | apply Drawn0.step)⟩
    · rw [if_neg c8] at H
      have c8b0 : decide (48 ≤ a0) = false := decide_eq_false c8
      clear c8
      by_cases c11 : a0 = 46
      · rw [if_pos c11] at H
        have c11b0 : (a0 == 46) = true := beq_iff_eq.mpr c11
        have c11b1 : (a0 != 46) = false := bne_eq_false_iff_eq.mpr c11
        clear c11
        obtain rfl := Option.some.inj H
        go_enter Try.func44, Try.ntmps44
        go_wp2
        go_ret
        exact ⟨by first | rfl | (simp; done) | (simp only [i64_w, i32_w]; done) | (simp only [i64_w, i32_w]; rfl) | (simp [*]; done), by repeat (first | exact Drawn0.refl _ | apply Drawn0.step)⟩
      · rw [if_neg c11] at H
        have c11b0 : (a0 == 46) = false := beq_eq_false_iff_ne.mpr c11
        have c11b1 : (a0 != 46) = true := bne_iff_ne.mpr c11
        obtain rfl := Option.some.inj H
        go_enter Try.func44, Try.ntmps44
        go_wp2
        go_ret
        exact ⟨by first | rfl | (simp; done) | (simp only [i64_w, i32_w]; done) | (simp only [i64_w, i32_w]; rfl) | (simp [*]; done), by repeat (first | exact Drawn0.refl _ | apply Drawn0.step)⟩

end Go.Proofs.Ytpganphmapdkcaa.P
