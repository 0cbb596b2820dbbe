-- Written by a program of this session (patch_print.py over the kit's print; given texts in wip/given).
import Derived.Test.YtheakfegchndcaaPx0
namespace Go.Proofs.Ytheakfegchndcaa.P
open Go.RowKit Go.Proofs.YtheakfegchndcaaW.PrintWords Go.Proofs.YtheakfegchndcaaW.PrintLast Go.Proofs.YtheakfegchndcaaW.PrintMore
attribute [local go_sem] max2_int min2_int max_two min_two max_three min_three max_four min_four   -- for this text's walks alone
set_option linter.unusedVariables false
set_option linter.unusedSimpArgs false
set_option maxHeartbeats 8000000
set_option maxRecDepth 100000

/-! ### laws_FnExactConstants: function 3 -/
def laws_FnExactConstants.f  : Option (Bool) := some true
theorem laws_FnExactConstants.calls  (r : Bool) (w : World) (h : laws_FnExactConstants.f  = some r) :
  Calls Try.prog 3 #[] w fun e w' => e = .returned (.bool r) ∧ Drawn0 w w' := by
 have H : (some true) = some r := h
 clear h
 obtain rfl := Option.some.inj H
 go_enter Try.func3, Try.ntmps3
 go_wp2
 go_ret
 exact ⟨by first | rfl | (simp; done) | (simp only [i64_w, i32_w]; done) | (simp only [i64_w, i32_w]; rfl) | (simp [*]; done) | (simp [emp_bne, emp_beq]; done), by repeat (first | exact Drawn0.refl _ | apply Drawn0.step)⟩

/-- THE ONE PURE STATEMENT of laws_FnExactConstants: yours. -/
def laws_FnExactConstants.Pure : Prop := laws_FnExactConstants.f  = some true
theorem laws_FnExactConstants.walk (P : laws_FnExactConstants.Pure)  (w : World)  :
  Calls Try.prog 3 #[] w fun e w' => e = .returned (.bool true) ∧ Below w.heap.size w w' := by
 have h := P  
 refine (laws_FnExactConstants.calls  true w h).mono ?_
 rintro e w' ⟨rfl, hd⟩
 exact ⟨rfl, hd.below⟩

end Go.Proofs.Ytheakfegchndcaa.P
