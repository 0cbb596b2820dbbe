-- Written by a program of this session (patch_print.py over the kit's print; given texts in wip/given).
import Derived.Test.YtpganphmapdkcaaPx0
import Derived.Test.YtpganphmapdkcaaPx7
import Derived.Test.YtpganphmapdkcaaPx8
namespace Go.Proofs.Ytpganphmapdkcaa.P
open Go.RowKit Go.Proofs.YtpganphmapdkcaaW.PrintWords Go.Proofs.YtpganphmapdkcaaW.PrintLast Go.Proofs.YtpganphmapdkcaaW.PrintMore
attribute [local go_sem] max2_int min2_int max_two min_two max_three min_three max_four min_four   -- for this text's walks alone
set_option linter.unusedVariables false
set_option linter.unusedSimpArgs false

/-! ### laws_FnPathCut: function 4 -/
def laws_FnPathCut.j0 : Nat → List Int → List Int → Bool → Option (Bool)
  | 0, _, _, _ => none
  | k + 1, x0, x1, x16 => if x16 = true then (some true) else ((spec_DrawPathClean.f k x0).bind fun t323 => ((impl_PathClean.f k t323).bind fun t326 => ((spec_PathClean.f k t323).bind fun t329 => ((laws_lpTexts.f k t326 t329).bind fun t332 => (if t332 = true then (if (wrap64 ((t323.length : Int) + 1)) = 0 then (none) else (if 0 ≤ ((x1.length : Int) % (wrap64 ((t323.length : Int) + 1))) then (if ((x1.length : Int) % (wrap64 ((t323.length : Int) + 1))) ≤ (t323.length : Int) then ((impl_PathClean.f k (t323.take (((x1.length : Int) % (wrap64 ((t323.length : Int) + 1))) : Int).toNat)).bind fun t337 => ((some (([] : List ByteArray) : List ByteArray)).bind fun y340 => (if y340.length + t337.length < 8796093022208 then ((some (y340 ++ t337 : List ByteArray)).bind fun y343 => ((some (t323.drop (((x1.length : Int) % (wrap64 ((t323.length : Int) + 1))) : Int).toNat : List ByteArray)).bind fun y346 => (if y343.length + y346.length < 8796093022208 then ((impl_PathClean.f k (y343 ++ y346)).bind fun t353 => ((laws_lpTexts.f k t353 t326).bind fun t356 => (some t356))) else (none)))) else (none)))) else (none)) else (none))) else (some false))))))
def laws_FnPathCut.f (k : Nat) (l0 : List Int) (l1 : List Int) : Option (Bool) := if (l0.length : Int) > 1048576 then (laws_FnPathCut.j0 k l0 l1 true) else (laws_FnPathCut.j0 k l0 l1 (decide ((l1.length : Int) > 1048576)))
theorem laws_FnPathCut.mono_l : ∀ k, (∀ y0 y1 y2, LeO (laws_FnPathCut.j0 k y0 y1 y2) (laws_FnPathCut.j0 (k + 1) y0 y1 y2))
  | 0 => fun _ _ _ r h => by simp [laws_FnPathCut.j0] at h
  | k + 1 => by
    have ih0 := laws_FnPathCut.mono_l k
    · intro y0 y1 y2
      unfold laws_FnPathCut.j0
      repeat' first
      | (with_reducible exact ih0 _ _ _)
      | (with_reducible exact impl_PathClean.mono _ _)
      | (with_reducible exact laws_lpTexts.mono _ _ _)
      | (with_reducible exact spec_DrawPathClean.mono _ _)
      | (with_reducible exact spec_PathClean.mono _ _)
      | (with_reducible exact LeO.refl _)
      | (with_reducible exact LeO.none _)
      | (with_reducible refine LeO.ite ?_ ?_)
      | (with_reducible refine LeO.bind ?_ (fun _ => ?_))
      | exact ih0 _ _ _
      | exact impl_PathClean.mono _ _
      | exact laws_lpTexts.mono _ _ _
      | exact spec_DrawPathClean.mono _ _
      | exact spec_PathClean.mono _ _
      | exact LeO.none _
      | refine LeO.ite ?_ ?_
      | refine LeO.bind ?_ (fun _ => ?_)
theorem laws_FnPathCut.mono : ∀ a0 a1 k, LeO (laws_FnPathCut.f k a0 a1) (laws_FnPathCut.f (k + 1) a0 a1) := by
  intro a0 a1 k
  have ih0 := laws_FnPathCut.mono_l k
  unfold laws_FnPathCut.f
  repeat' first
      | (with_reducible exact ih0 _ _ _)
      | (with_reducible exact impl_PathClean.mono _ _)
      | (with_reducible exact laws_lpTexts.mono _ _ _)
      | (with_reducible exact spec_DrawPathClean.mono _ _)
      | (with_reducible exact spec_PathClean.mono _ _)
      | (with_reducible exact LeO.refl _)
      | (with_reducible exact LeO.none _)
      | (with_reducible refine LeO.ite ?_ ?_)
      | (with_reducible refine LeO.bind ?_ (fun _ => ?_))
      | exact ih0 _ _ _
      | exact impl_PathClean.mono _ _
      | exact laws_lpTexts.mono _ _ _
      | exact spec_DrawPathClean.mono _ _
      | exact spec_PathClean.mono _ _
      | exact LeO.none _
      | refine LeO.ite ?_ ?_
      | refine LeO.bind ?_ (fun _ => ?_)
def laws_FnPathCut.T9 : Bool × List (List Nat × List Nat) := (true, [([], []), ([], []), ([0, 1], [0, 1]), ([], []), ([], []), ([3, 4], [3, 4]), ([2, 5, 2], [2, 5]), ([6, 6], [6]), ([], []), ([7, 8, 7], [7, 8]), ([9, 9, 0, 1, 2, 3, 4, 5, 6, 7, 8, 9], [9])])
def laws_FnPathCut.B9 : List Nat := [0, 0, 3, 0, 0, 24, 63, 127, 0, 511, 1023]
theorem laws_FnPathCut.tab9 : rtab .any (opsOf Try.f4 9) = laws_FnPathCut.T9 := by kernel_rfl
theorem laws_FnPathCut.bits9 : waitsOk laws_FnPathCut.T9.2 laws_FnPathCut.B9 = true := by kernel_rfl
set_option maxHeartbeats 8000000 in
set_option maxRecDepth 100000 in
theorem laws_FnPathCut.calls (k : Nat) (A0 : Option Addr) (c0 : Nat) (l0 : List Int) (A1 : Option Addr) (c1 : Nat) (l1 : List Int) (r : Bool) (w : World) (hr0 : Kd.C (Kd.int .u8) w A0 l0.length l0) (hc0 : l0.length ≤ c0) (hr1 : Kd.C (Kd.int .u8) w A1 l1.length l1) (hc1 : l1.length ≤ c1) (h : laws_FnPathCut.f k l0 l1 = some r) :
    Calls Try.prog 4 #[.slice A0 l0.length c0, .slice A1 l1.length c1] w fun e w' => e = .returned (.bool r) ∧ Below w.heap.size w w' := by
  have HR0 := Aside0.mk hr0
  have HC0 := Aside0.mk hc0
  clear hr0 hc0
  have HR1 := Aside0.mk hr1
  have HC1 := Aside0.mk hc1
  clear hr1 hc1
  have HB := Aside0.mk (Below.refl w.heap.size w)
  have H : (if (l0.length : Int) > 1048576 then (laws_FnPathCut.j0 k l0 l1 true) else (laws_FnPathCut.j0 k l0 l1 (decide ((l1.length : Int) > 1048576)))) = some r := h
  clear h
  have HC3 := Aside0.mk H
  clear H
  go_enter Try.func4, Try.ntmps4
  go_upto_region 1 with (fail)
  go_cut [16] (fun v16 wc => ∃ (kq : Nat) (x16_2 : Bool), v16 = .bool x16_2 ∧ Aside0 (laws_FnPathCut.j0 kq l0 l1 x16_2 = some r) ∧ Aside0 (kq ≤ k) ∧ Aside0 (Below w.heap.size w wc))
  case first =>
    have H := HC3.out
    clear HC3
    by_cases c4 : (l0.length : Int) > 1048576
    · rw [if_pos c4] at H
      have c4b0 : decide (1048576 < (l0.length : Int)) = true := decide_eq_true c4
      have c4b1 : decide (1048576 < l0.length) = true := decide_eq_true (by omega)
      clear c4
      (first | rw [c4b0] | (simp only [i64_w, i32_w]; rw [c4b0]) | skip)
      have H' := Aside0.mk H
      clear H
      go_wp2
      go_meet
      case rel => exact ⟨_, (true), (by first | rfl | (simp; done) | (simp only [i64_w, i32_w]; done) | (simp only [i64_w, i32_w]; rfl) | (simp [*]; done)), H', ⟨by first | omega | exact Nat.le_refl _⟩, ⟨by repeat (first | (with_reducible first | exact HB.out | apply below_alloc | apply pw_below_drewN | apply below_drew1) | exact HB.out)⟩⟩
    · rw [if_neg c4] at H
      have c4b0 : decide (1048576 < (l0.length : Int)) = false := decide_eq_false c4
      have c4b1 : decide (1048576 < l0.length) = false := decide_eq_false (by omega)
      clear c4
      (first | rw [c4b0] | (simp only [i64_w, i32_w]; rw [c4b0]) | skip)
      have H' := Aside0.mk H
      clear H
      go_wp2
      go_meet
      case rel => exact ⟨_, (decide ((l1.length : Int) > 1048576)), (by first | rfl | (simp; done) | (simp only [i64_w, i32_w]; done) | (simp only [i64_w, i32_w]; rfl) | (simp [*]; done)), H', ⟨by first | omega | exact Nat.le_refl _⟩, ⟨by repeat (first | (with_reducible first | exact HB.out | apply below_alloc | apply pw_below_drewN | apply below_drew1) | exact HB.out)⟩⟩
  case rest =>
    clear HC3
    try clear c1
    try clear p2
    try clear c4
    try clear c4b0
    try clear c4b1
    obtain ⟨kq, x16_2, rfl, HA, HJ2, HB⟩ := hcut
    cases kq with
    | zero => exact absurd HA.out (by simp [laws_FnPathCut.j0])
    | succ kj2 =>
      have H := HA.out
      clear HA
      simp only [laws_FnPathCut.j0] at H
      by_cases c5 : x16_2 = true
      · subst c5
        have H1 : (some true) = some r := by rw [if_pos rfl] at H; exact H
        clear H
        have H := H1
        clear H1
        obtain rfl := Option.some.inj H
        go_wp2
        go_ret
        exact ⟨by first | rfl | (simp [errW_none, errW_some] <;> rfl) | (simp [*, errW_none, errW_some] <;> rfl), by repeat (first | (with_reducible first | exact HB.out | apply below_alloc | apply pw_below_drewN | apply below_drew1) | exact HB.out)⟩
      · replace c5 := Bool.eq_false_iff.mpr c5
        subst c5
        have H1 : ((spec_DrawPathClean.f kj2 l0).bind fun t323 => ((impl_PathClean.f kj2 t323).bind fun t326 => ((spec_PathClean.f kj2 t323).bind fun t329 => ((laws_lpTexts.f kj2 t326 t329).bind fun t332 => (if t332 = true then (if (wrap64 ((t323.length : Int) + 1)) = 0 then (none) else (if 0 ≤ ((l1.length : Int) % (wrap64 ((t323.length : Int) + 1))) then (if ((l1.length : Int) % (wrap64 ((t323.length : Int) + 1))) ≤ (t323.length : Int) then ((impl_PathClean.f kj2 (t323.take (((l1.length : Int) % (wrap64 ((t323.length : Int) + 1))) : Int).toNat)).bind fun t337 => ((some (([] : List ByteArray) : List ByteArray)).bind fun y340 => (if y340.length + t337.length < 8796093022208 then ((some (y340 ++ t337 : List ByteArray)).bind fun y343 => ((some (t323.drop (((l1.length : Int) % (wrap64 ((t323.length : Int) + 1))) : Int).toNat : List ByteArray)).bind fun y346 => (if y343.length + y346.length < 8796093022208 then ((impl_PathClean.f kj2 (y343 ++ y346)).bind fun t353 => ((laws_lpTexts.f kj2 t353 t326).bind fun t356 => (some t356))) else (none)))) else (none)))) else (none)) else (none))) else (some false)))))) = some r := by rw [if_neg (show ¬ (false = true) by decide)] at H; exact H
        clear H
        have H := H1
        clear H1
        replace H := Option.bind_eq_some_iff.mp H
        obtain ⟨t323, A60, H⟩ := H
        replace H : ((impl_PathClean.f kj2 t323).bind fun t326 => ((spec_PathClean.f kj2 t323).bind fun t329 => ((laws_lpTexts.f kj2 t326 t329).bind fun t332 => (if t332 = true then (if (wrap64 ((t323.length : Int) + 1)) = 0 then (none) else (if 0 ≤ ((l1.length : Int) % (wrap64 ((t323.length : Int) + 1))) then (if ((l1.length : Int) % (wrap64 ((t323.length : Int) + 1))) ≤ (t323.length : Int) then ((impl_PathClean.f kj2 (t323.take (((l1.length : Int) % (wrap64 ((t323.length : Int) + 1))) : Int).toNat)).bind fun t337 => ((some (([] : List ByteArray) : List ByteArray)).bind fun y340 => (if y340.length + t337.length < 8796093022208 then ((some (y340 ++ t337 : List ByteArray)).bind fun y343 => ((some (t323.drop (((l1.length : Int) % (wrap64 ((t323.length : Int) + 1))) : Int).toNat : List ByteArray)).bind fun y346 => (if y343.length + y346.length < 8796093022208 then ((impl_PathClean.f kj2 (y343 ++ y346)).bind fun t353 => ((laws_lpTexts.f kj2 t353 t326).bind fun t356 => (some t356))) else (none)))) else (none)))) else (none)) else (none))) else (some false))))) = some r := H
        have A6 := Aside0.mk A60
        clear A60
        replace H := Option.bind_eq_some_iff.mp H
        obtain ⟨t326, A70, H⟩ := H
        replace H : ((spec_PathClean.f kj2 t323).bind fun t329 => ((laws_lpTexts.f kj2 t326 t329).bind fun t332 => (if t332 = true then (if (wrap64 ((t323.length : Int) + 1)) = 0 then (none) else (if 0 ≤ ((l1.length : Int) % (wrap64 ((t323.length : Int) + 1))) then (if ((l1.length : Int) % (wrap64 ((t323.length : Int) + 1))) ≤ (t323.length : Int) then ((impl_PathClean.f kj2 (t323.take (((l1.length : Int) % (wrap64 ((t323.length : Int) + 1))) : Int).toNat)).bind fun t337 => ((some (([] : List ByteArray) : List ByteArray)).bind fun y340 => (if y340.length + t337.length < 8796093022208 then ((some (y340 ++ t337 : List ByteArray)).bind fun y343 => ((some (t323.drop (((l1.length : Int) % (wrap64 ((t323.length : Int) + 1))) : Int).toNat : List ByteArray)).bind fun y346 => (if y343.length + y346.length < 8796093022208 then ((impl_PathClean.f kj2 (y343 ++ y346)).bind fun t353 => ((laws_lpTexts.f kj2 t353 t326).bind fun t356 => (some t356))) else (none)))) else (none)))) else (none)) else (none))) else (some false)))) = some r := H
        have A7 := Aside0.mk A70
        clear A70
        replace H := Option.bind_eq_some_iff.mp H
        obtain ⟨t329, A80, H⟩ := H
        replace H : ((laws_lpTexts.f kj2 t326 t329).bind fun t332 => (if t332 = true then (if (wrap64 ((t323.length : Int) + 1)) = 0 then (none) else (if 0 ≤ ((l1.length : Int) % (wrap64 ((t323.length : Int) + 1))) then (if ((l1.length : Int) % (wrap64 ((t323.length : Int) + 1))) ≤ (t323.length : Int) then ((impl_PathClean.f kj2 (t323.take (((l1.length : Int) % (wrap64 ((t323.length : Int) + 1))) : Int).toNat)).bind fun t337 => ((some (([] : List ByteArray) : List ByteArray)).bind fun y340 => (if y340.length + t337.length < 8796093022208 then ((some (y340 ++ t337 : List ByteArray)).bind fun y343 => ((some (t323.drop (((l1.length : Int) % (wrap64 ((t323.length : Int) + 1))) : Int).toNat : List ByteArray)).bind fun y346 => (if y343.length + y346.length < 8796093022208 then ((impl_PathClean.f kj2 (y343 ++ y346)).bind fun t353 => ((laws_lpTexts.f kj2 t353 t326).bind fun t356 => (some t356))) else (none)))) else (none)))) else (none)) else (none))) else (some false))) = some r := H
        have A8 := Aside0.mk A80
        clear A80
        replace H := Option.bind_eq_some_iff.mp H
        obtain ⟨t332, A90, H⟩ := H
        replace H : (if t332 = true then (if (wrap64 ((t323.length : Int) + 1)) = 0 then (none) else (if 0 ≤ ((l1.length : Int) % (wrap64 ((t323.length : Int) + 1))) then (if ((l1.length : Int) % (wrap64 ((t323.length : Int) + 1))) ≤ (t323.length : Int) then ((impl_PathClean.f kj2 (t323.take (((l1.length : Int) % (wrap64 ((t323.length : Int) + 1))) : Int).toNat)).bind fun t337 => ((some (([] : List ByteArray) : List ByteArray)).bind fun y340 => (if y340.length + t337.length < 8796093022208 then ((some (y340 ++ t337 : List ByteArray)).bind fun y343 => ((some (t323.drop (((l1.length : Int) % (wrap64 ((t323.length : Int) + 1))) : Int).toNat : List ByteArray)).bind fun y346 => (if y343.length + y346.length < 8796093022208 then ((impl_PathClean.f kj2 (y343 ++ y346)).bind fun t353 => ((laws_lpTexts.f kj2 t353 t326).bind fun t356 => (some t356))) else (none)))) else (none)))) else (none)) else (none))) else (some false)) = some r := H
        have A9 := Aside0.mk A90
        clear A90
        by_cases c10 : t332 = true
        · subst c10
          have H1 : (if (wrap64 ((t323.length : Int) + 1)) = 0 then (none) else (if 0 ≤ ((l1.length : Int) % (wrap64 ((t323.length : Int) + 1))) then (if ((l1.length : Int) % (wrap64 ((t323.length : Int) + 1))) ≤ (t323.length : Int) then ((impl_PathClean.f kj2 (t323.take (((l1.length : Int) % (wrap64 ((t323.length : Int) + 1))) : Int).toNat)).bind fun t337 => ((some (([] : List ByteArray) : List ByteArray)).bind fun y340 => (if y340.length + t337.length < 8796093022208 then ((some (y340 ++ t337 : List ByteArray)).bind fun y343 => ((some (t323.drop (((l1.length : Int) % (wrap64 ((t323.length : Int) + 1))) : Int).toNat : List ByteArray)).bind fun y346 => (if y343.length + y346.length < 8796093022208 then ((impl_PathClean.f kj2 (y343 ++ y346)).bind fun t353 => ((laws_lpTexts.f kj2 t353 t326).bind fun t356 => (some t356))) else (none)))) else (none)))) else (none)) else (none))) = some r := by rw [if_pos rfl] at H; exact H
          clear H
          have H := H1
          clear H1
          by_cases c11 : (wrap64 ((t323.length : Int) + 1)) = 0
          · rw [if_pos c11] at H
            exact absurd H (by simp)
          · rw [if_neg c11] at H
            have c11b0 : ((wrap64 ((t323.length : Int) + 1)) == 0) = false := beq_eq_false_iff_ne.mpr c11
            have c11b1 : ((wrap64 ((t323.length : Int) + 1)) != 0) = true := bne_iff_ne.mpr c11
            obtain ⟨ji12, hji12⟩ : ∃ j_ : Int, ((l1.length : Int) % (wrap64 ((t323.length : Int) + 1))) = j_ := ⟨_, rfl⟩
            replace H : (if 0 ≤ (ji12) then (if (ji12) ≤ (t323.length : Int) then ((impl_PathClean.f kj2 (t323.take ((ji12) : Int).toNat)).bind fun t337 => ((some (([] : List ByteArray) : List ByteArray)).bind fun y340 => (if y340.length + t337.length < 8796093022208 then ((some (y340 ++ t337 : List ByteArray)).bind fun y343 => ((some (t323.drop ((ji12) : Int).toNat : List ByteArray)).bind fun y346 => (if y343.length + y346.length < 8796093022208 then ((impl_PathClean.f kj2 (y343 ++ y346)).bind fun t353 => ((laws_lpTexts.f kj2 t353 t326).bind fun t356 => (some t356))) else (none)))) else (none)))) else (none)) else (none)) = some r := by first | (rw [hji12] at H; exact H) | (simp only [hji12] at H ⊢; exact H)
            (try rw [hji12] at A6)
            (try rw [hji12] at A7)
            (try rw [hji12] at A8)
            (try rw [hji12] at A9)
            by_cases c13 : 0 ≤ (ji12)
            · rw [if_pos c13] at H
              have c13b0 := eq_true c13
              have c13b1 : decide (0 ≤ (ji12)) = true := decide_eq_true c13
              clear c13
              by_cases c14 : (ji12) ≤ (t323.length : Int)
              · rw [if_pos c14] at H
                have c14b0 := eq_true c14
                have c14b1 : decide ((ji12) ≤ (t323.length : Int)) = true := decide_eq_true c14
                clear c14
                obtain ⟨y333, hy333⟩ : ∃ y_ : List ByteArray, y_ = (t323.take ((ji12) : Int).toNat) := ⟨_, rfl⟩
                replace H : ((impl_PathClean.f kj2 y333).bind fun t337 => ((some (([] : List ByteArray) : List ByteArray)).bind fun y340 => (if y340.length + t337.length < 8796093022208 then ((some (y340 ++ t337 : List ByteArray)).bind fun y343 => ((some (t323.drop ((ji12) : Int).toNat : List ByteArray)).bind fun y346 => (if y343.length + y346.length < 8796093022208 then ((impl_PathClean.f kj2 (y343 ++ y346)).bind fun t353 => ((laws_lpTexts.f kj2 t353 t326).bind fun t356 => (some t356))) else (none)))) else (none)))) = some r := by first | (rw [hy333]; with_reducible exact H) | (have H2_ := (Option.bind_some _ _).symm.trans H; rw [hy333]; with_reducible exact H2_) | (have H2_ := (Option.bind_some _ _).symm.trans H; with_reducible exact H2_) | with_reducible exact H | (rw [hy333]; exact H) | exact H
                have Ny333 := Aside0.mk hy333
                clear hy333
                replace H := Option.bind_eq_some_iff.mp H
                obtain ⟨t337, A150, H⟩ := H
                replace H : ((some (([] : List ByteArray) : List ByteArray)).bind fun y340 => (if y340.length + t337.length < 8796093022208 then ((some (y340 ++ t337 : List ByteArray)).bind fun y343 => ((some (t323.drop ((ji12) : Int).toNat : List ByteArray)).bind fun y346 => (if y343.length + y346.length < 8796093022208 then ((impl_PathClean.f kj2 (y343 ++ y346)).bind fun t353 => ((laws_lpTexts.f kj2 t353 t326).bind fun t356 => (some t356))) else (none)))) else (none))) = some r := H
                have A15 := Aside0.mk A150
                clear A150
                obtain ⟨y340, hy340⟩ : ∃ y_ : List ByteArray, y_ = (([] : List ByteArray)) := ⟨_, rfl⟩
                replace H : (if y340.length + t337.length < 8796093022208 then ((some (y340 ++ t337 : List ByteArray)).bind fun y343 => ((some (t323.drop ((ji12) : Int).toNat : List ByteArray)).bind fun y346 => (if y343.length + y346.length < 8796093022208 then ((impl_PathClean.f kj2 (y343 ++ y346)).bind fun t353 => ((laws_lpTexts.f kj2 t353 t326).bind fun t356 => (some t356))) else (none)))) else (none)) = some r := by first | (rw [hy340]; with_reducible exact H) | (have H2_ := (Option.bind_some _ _).symm.trans H; rw [hy340]; with_reducible exact H2_) | (have H2_ := (Option.bind_some _ _).symm.trans H; with_reducible exact H2_) | with_reducible exact H | (rw [hy340]; exact H) | exact H
                have Ny340 := Aside0.mk hy340
                clear hy340
                by_cases c16 : y340.length + t337.length < 8796093022208
                · rw [if_pos c16] at H
                  have LMc16 := Aside0.mk c16
                  clear c16
                  obtain ⟨y343, hy343⟩ : ∃ y_ : List ByteArray, y_ = (y340 ++ t337) := ⟨_, rfl⟩
                  replace H : ((some (t323.drop ((ji12) : Int).toNat : List ByteArray)).bind fun y346 => (if y343.length + y346.length < 8796093022208 then ((impl_PathClean.f kj2 (y343 ++ y346)).bind fun t353 => ((laws_lpTexts.f kj2 t353 t326).bind fun t356 => (some t356))) else (none))) = some r := by first | (rw [hy343]; with_reducible exact H) | (have H2_ := (Option.bind_some _ _).symm.trans H; rw [hy343]; with_reducible exact H2_) | (have H2_ := (Option.bind_some _ _).symm.trans H; with_reducible exact H2_) | with_reducible exact H | (rw [hy343]; exact H) | exact H
                  have Ny343 := Aside0.mk hy343
                  clear hy343
                  have c17b0 := eq_true (of_decide_eq_true (by first | (with_reducible assumption) | assumption) : 0 ≤ (ji12))
                  have c18b0 := eq_true (of_decide_eq_true (by first | (with_reducible assumption) | assumption) : (ji12) ≤ (t323.length : Int))
                  obtain ⟨y346, hy346⟩ : ∃ y_ : List ByteArray, y_ = (t323.drop ((ji12) : Int).toNat) := ⟨_, rfl⟩
                  replace H : (if y343.length + y346.length < 8796093022208 then ((impl_PathClean.f kj2 (y343 ++ y346)).bind fun t353 => ((laws_lpTexts.f kj2 t353 t326).bind fun t356 => (some t356))) else (none)) = some r := by first | (rw [hy346]; with_reducible exact H) | (have H2_ := (Option.bind_some _ _).symm.trans H; rw [hy346]; with_reducible exact H2_) | (have H2_ := (Option.bind_some _ _).symm.trans H; with_reducible exact H2_) | with_reducible exact H | (rw [hy346]; exact H) | exact H
                  have Ny346 := Aside0.mk hy346
                  clear hy346
                  by_cases c19 : y343.length + y346.length < 8796093022208
                  · rw [if_pos c19] at H
                    have LMc19 := Aside0.mk c19
                    clear c19
                    obtain ⟨y350, hy350⟩ : ∃ y_ : List ByteArray, y_ = (y343 ++ y346) := ⟨_, rfl⟩
                    replace H : ((impl_PathClean.f kj2 y350).bind fun t353 => ((laws_lpTexts.f kj2 t353 t326).bind fun t356 => (some t356))) = some r := by first | (rw [hy350]; with_reducible exact H) | (have H2_ := (Option.bind_some _ _).symm.trans H; rw [hy350]; with_reducible exact H2_) | (have H2_ := (Option.bind_some _ _).symm.trans H; with_reducible exact H2_) | with_reducible exact H | (rw [hy350]; exact H) | exact H
                    have Ny350 := Aside0.mk hy350
                    clear hy350
                    replace H := Option.bind_eq_some_iff.mp H
                    obtain ⟨t353, A200, H⟩ := H
                    replace H : ((laws_lpTexts.f kj2 t353 t326).bind fun t356 => (some t356)) = some r := H
                    have A20 := Aside0.mk A200
                    clear A200
                    replace H := Option.bind_eq_some_iff.mp H
                    obtain ⟨t356, A210, H⟩ := H
                    replace H : (some t356) = some r := H
                    have A21 := Aside0.mk A210
                    clear A210
                    obtain rfl := Option.some.inj H
                    try go_wp2_with (first | ((with_reducible refine gate_callee (f := 17) rfl ?_); refine goesL_ (some 18) rfl rfl Try.func17 (by kernel_rfl) rfl #[.slice A0 l0.length c0] rfl (by (try simp only [List.map_toArray, List.map_cons, List.map_nil]); first | done | rfl | (simp only [List.length_drop, List.length_take]; rfl)) ?_; (with_reducible refine (spec_DrawPathClean.calls kj2 _ _ l0 t323 _ ?side1 ?side2 A6.out).mono ?_); (case side1 => repeat (first | exact (Kd.C_below HR0.out HB.out) | (with_reducible refine Kd.C_alloc ?_ _) | (with_reducible refine Kd.C_drewN ?_ _) | (with_reducible refine Kd.C_drew ?_))); (case side2 => exact HC0.out); rintro e w22 ⟨v324, rfl, ho0, hb⟩; refine ⟨_, rfl, ?_⟩; have n0_ := Aside0.mk (Kd.R_lower ho0 (below_size (by repeat (first | (with_reducible first | exact HB.out | apply below_alloc | apply pw_below_drewN | apply below_drew1) | exact HB.out)))); have n1_ := Aside0.mk (below_step (by repeat (first | (with_reducible first | exact HB.out | apply below_alloc | apply pw_below_drewN | apply below_drew1) | exact HB.out)) hb); clear HB; have HO325 := n0_; have HB := n1_; clear n0_ n1_; (try clear hb); (try clear hb2); (try clear hk); (try clear hi); (try clear ho0); obtain ⟨Ao23, co23, eo23⟩ := Kd.R_slice HO325.out; subst eo23) | ((with_reducible refine gate_callee (f := 18) rfl ?_); refine goesL_ (some 20) rfl rfl Try.func18 (by kernel_rfl) rfl #[.slice Ao23 t323.length co23] rfl (by (try simp only [List.map_toArray, List.map_cons, List.map_nil]); first | done | rfl | (simp only [List.length_drop, List.length_take]; rfl)) ?_; (with_reducible refine (impl_PathClean.calls kj2 _ _ t323 t326 _ ?side1 ?side2 A7.out).mono ?_); (case side1 => repeat (first | exact (Kd.R_reads' HO325.out).2.2 | (with_reducible refine Kd.C_alloc ?_ _) | (with_reducible refine Kd.C_drewN ?_ _) | (with_reducible refine Kd.C_drew ?_))); (case side2 => exact (Kd.R_reads' HO325.out).2.1); rintro e w24 ⟨v327, rfl, ho0, hb⟩; refine ⟨_, rfl, ?_⟩; have n0_ := Aside0.mk (Kd.R_elder' (by (with_reducible repeat (first | apply Kd.R_alloc | apply Kd.R_drewN | apply Kd.R_drew)); exact HO325.out) (Kd.R_base ho0) hb); have n1_ := Aside0.mk (Kd.R_lower (Kd.R_new' ho0 (Kd.R_lt (by (with_reducible repeat (first | apply Kd.R_alloc | apply Kd.R_drewN | apply Kd.R_drew)); exact HO325.out))) (below_size (by repeat (first | (with_reducible first | exact HB.out | apply below_alloc | apply pw_below_drewN | apply below_drew1) | exact HB.out)))); have n2_ := Aside0.mk (below_step (by repeat (first | (with_reducible first | exact HB.out | apply below_alloc | apply pw_below_drewN | apply below_drew1) | exact HB.out)) hb); clear HO325; clear HB; have HO325 := n0_; have HO328 := n1_; have HB := n2_; clear n0_ n1_ n2_; (try clear hb); (try clear hb2); (try clear hk); (try clear hi); (try clear ho0)) | ((with_reducible refine gate_callee (f := 20) rfl ?_); refine goesL_ (some 23) rfl rfl Try.func20 (by kernel_rfl) rfl #[.slice Ao23 t323.length co23] rfl (by (try simp only [List.map_toArray, List.map_cons, List.map_nil]); first | done | rfl | (simp only [List.length_drop, List.length_take]; rfl)) ?_; (with_reducible refine (spec_PathClean.calls kj2 _ _ t323 t329 _ ?side1 ?side2 A8.out).mono ?_); (case side1 => repeat (first | exact (Kd.R_reads' HO325.out).2.2 | (with_reducible refine Kd.C_alloc ?_ _) | (with_reducible refine Kd.C_drewN ?_ _) | (with_reducible refine Kd.C_drew ?_))); (case side2 => exact (Kd.R_reads' HO325.out).2.1); rintro e w25 ⟨v330, rfl, ho0, hb⟩; refine ⟨_, rfl, ?_⟩; have n0_ := Aside0.mk (Kd.R_elder' (by (with_reducible repeat (first | apply Kd.R_alloc | apply Kd.R_drewN | apply Kd.R_drew)); exact HO325.out) (Kd.R_base ho0) hb); have n1_ := Aside0.mk (Kd.R_elder' (by (with_reducible repeat (first | apply Kd.R_alloc | apply Kd.R_drewN | apply Kd.R_drew)); exact HO328.out) (Kd.R_base ho0) hb); have n2_ := Aside0.mk (Kd.R_lower (Kd.R_new' (Kd.R_new' ho0 (Kd.R_lt (by (with_reducible repeat (first | apply Kd.R_alloc | apply Kd.R_drewN | apply Kd.R_drew)); exact HO325.out))) (Kd.R_lt (by (with_reducible repeat (first | apply Kd.R_alloc | apply Kd.R_drewN | apply Kd.R_drew)); exact HO328.out))) (below_size (by repeat (first | (with_reducible first | exact HB.out | apply below_alloc | apply pw_below_drewN | apply below_drew1) | exact HB.out)))); have n3_ := Aside0.mk (below_step (by repeat (first | (with_reducible first | exact HB.out | apply below_alloc | apply pw_below_drewN | apply below_drew1) | exact HB.out)) hb); clear HO325; clear HO328; clear HB; have HO325 := n0_; have HO328 := n1_; have HO331 := n2_; have HB := n3_; clear n0_ n1_ n2_ n3_; (try clear hb); (try clear hb2); (try clear hk); (try clear hi); (try clear ho0); obtain ⟨Ao26, co26, eo26⟩ := Kd.R_slice HO328.out; subst eo26; obtain ⟨Ao27, co27, eo27⟩ := Kd.R_slice HO331.out; subst eo27) | ((with_reducible refine gate_callee (f := 19) rfl ?_); refine goesL_ (some 24) rfl rfl Try.func19 (by kernel_rfl) rfl #[.slice Ao26 t326.length co26, .slice Ao27 t329.length co27] rfl (by (try simp only [List.map_toArray, List.map_cons, List.map_nil]); first | done | rfl | (simp only [List.length_drop, List.length_take]; rfl)) ?_; (with_reducible refine (laws_lpTexts.calls kj2 _ _ t326 _ _ t329 true _ ?side1 ?side2 ?side3 ?side4 A9.out).mono ?_); (case side1 => repeat (first | exact (Kd.R_reads' HO328.out).2.2 | (with_reducible refine Kd.C_alloc ?_ _) | (with_reducible refine Kd.C_drewN ?_ _) | (with_reducible refine Kd.C_drew ?_))); (case side2 => exact (Kd.R_reads' HO328.out).2.1); (case side3 => repeat (first | exact (Kd.R_reads' HO331.out).2.2 | (with_reducible refine Kd.C_alloc ?_ _) | (with_reducible refine Kd.C_drewN ?_ _) | (with_reducible refine Kd.C_drew ?_))); (case side4 => exact (Kd.R_reads' HO331.out).2.1); rintro e w' ⟨rfl, ⟨nd, rfl⟩⟩; refine ⟨_, rfl, ?_⟩; have q28 : ((ji12) : Int) ≤ ((t323.length : Int) : Int) := of_decide_eq_true (by first | (with_reducible assumption) | assumption); obtain ⟨i028, hi028, _, hsz28, _⟩ := info_parts info9; have hroom28 : t323.length ≤ co23 := (Kd.R_reads' HO325.out).2.1; have hC28 : Kd.C Kd.string _ Ao23 t323.length t323 := (Kd.R_reads' HO325.out).2.2; have hcut28 := cut_to (P := Try.prog) 24 9 .i64 Try.underlying24 hi028 Ao23 t323.length co23 (ji12) (of_decide_eq_true (by first | (with_reducible assumption) | assumption)) q28 hroom28; have hr28 := Kd.C_take (m := ((ji12) : Int).toNat) hC28 (by omega); have hy28 : y333.length = ((ji12) : Int).toNat := (by rw [Ny333.out, List.length_take]; omega); rw [← Ny333.out] at hr28; rw [← hy28] at hcut28; have HR336 := Aside0.mk hr28; have HC336 := Aside0.mk (show y333.length ≤ co23 from by omega); clear hr28 hC28 hroom28 hi028 hsz28; have KY28 := Aside0.mk hy28; clear hy28; have KL28 := Aside0.mk (show ((ji12) : Int).toNat ≤ t323.length from by omega); replace q28 := eq_true q28) | ((with_reducible refine gate_callee (f := 18) rfl ?_); refine goesL_ (some 35) rfl rfl Try.func18 (by kernel_rfl) rfl #[.slice Ao23 y333.length co23] rfl (by (try simp only [List.map_toArray, List.map_cons, List.map_nil]); first | done | rfl | (simp only [List.length_drop, List.length_take]; rfl)) ?_; (with_reducible refine (impl_PathClean.calls kj2 _ _ y333 t337 _ ?side1 ?side2 A15.out).mono ?_); (case side1 => repeat (first | exact (by repeat (first | (with_reducible exact HR336.out) | (with_reducible refine Kd.C_alloc ?_ _) | (with_reducible refine Kd.C_drewN ?_ _) | (with_reducible refine Kd.C_drew ?_) | exact HR336.out)) | (with_reducible refine Kd.C_alloc ?_ _) | (with_reducible refine Kd.C_drewN ?_ _) | (with_reducible refine Kd.C_drew ?_))); (case side2 => exact HC336.out); rintro e w29 ⟨v338, rfl, ho0, hb⟩; refine ⟨_, rfl, ?_⟩; have n0_ := Aside0.mk (Kd.R_elder' (by (with_reducible repeat (first | apply Kd.R_alloc | apply Kd.R_drewN | apply Kd.R_drew)); exact HO325.out) (Kd.R_base ho0) hb); have n1_ := Aside0.mk (Kd.R_elder' (by (with_reducible repeat (first | apply Kd.R_alloc | apply Kd.R_drewN | apply Kd.R_drew)); exact HO328.out) (Kd.R_base ho0) hb); have n2_ := Aside0.mk (Kd.R_elder' (by (with_reducible repeat (first | apply Kd.R_alloc | apply Kd.R_drewN | apply Kd.R_drew)); exact HO331.out) (Kd.R_base ho0) hb); have n3_ := Aside0.mk (Kd.R_lower (Kd.R_new' (Kd.R_new' (Kd.R_new' ho0 (Kd.R_lt (by (with_reducible repeat (first | apply Kd.R_alloc | apply Kd.R_drewN | apply Kd.R_drew)); exact HO325.out))) (Kd.R_lt (by (with_reducible repeat (first | apply Kd.R_alloc | apply Kd.R_drewN | apply Kd.R_drew)); exact HO328.out))) (Kd.R_lt (by (with_reducible repeat (first | apply Kd.R_alloc | apply Kd.R_drewN | apply Kd.R_drew)); exact HO331.out))) (below_size (by repeat (first | (with_reducible first | exact HB.out | apply below_alloc | apply pw_below_drewN | apply below_drew1) | exact HB.out)))); have n4_ := Aside0.mk (Kd.C_below (by repeat (first | (with_reducible exact HR336.out) | (with_reducible refine Kd.C_alloc ?_ _) | (with_reducible refine Kd.C_drewN ?_ _) | (with_reducible refine Kd.C_drew ?_) | exact HR336.out)) hb); have n5_ := Aside0.mk (below_step (by repeat (first | (with_reducible first | exact HB.out | apply below_alloc | apply pw_below_drewN | apply below_drew1) | exact HB.out)) hb); clear HO325; clear HO328; clear HO331; clear HR336; clear HB; have HO325 := n0_; have HO328 := n1_; have HO331 := n2_; have HO339 := n3_; have HR336 := n4_; have HB := n5_; clear n0_ n1_ n2_ n3_ n4_ n5_; (try clear hb); (try clear hb2); (try clear hk); (try clear hi); (try clear ho0)))
                    have n0_ := Aside0.mk (Kd.R_drew HO325.out)
                    have n1_ := Aside0.mk (Kd.R_drew HO328.out)
                    have n2_ := Aside0.mk (Kd.R_drew HO331.out)
                    have n3_ := Aside0.mk (Kd.R_drew HO339.out)
                    have n4_ := Aside0.mk (Kd.C_drew HR336.out)
                    have n5_ := Aside0.mk (below_drew1 HB.out)
                    clear HO325
                    clear HO328
                    clear HO331
                    clear HO339
                    clear HR336
                    clear HB
                    have HO325 := n0_
                    have HO328 := n1_
                    have HO331 := n2_
                    have HO339 := n3_
                    have HR336 := n4_
                    have HB := n5_
                    clear n0_ n1_ n2_ n3_ n4_ n5_
                    have q31 : ((ji12) : Int) ≤ ((t323.length : Int) : Int) := of_decide_eq_true (by first | (with_reducible assumption) | assumption)
                    obtain ⟨i031, hi031, _, hsz31, _⟩ := info_parts info9
                    have hroom31 : t323.length ≤ co23 := (Kd.R_reads' HO325.out).2.1
                    have hC31 : Kd.C Kd.string _ Ao23 t323.length t323 := (Kd.R_reads' HO325.out).2.2
                    have q031 : (0 : Int) ≤ ((ji12) : Int) := of_decide_eq_true (by first | (with_reducible assumption) | assumption)
                    have hcut31 := cut_from (P := Try.prog) 24 9 .i64 Try.underlying24 hi031 1 hsz31 Ao23 t323.length co23 (ji12) q031 q31
                    have hr31 := Kd.C_drop (m := ((ji12) : Int).toNat) (c := co23) hC31 (by omega) hroom31
                    obtain ⟨A31, hA31⟩ : ∃ A1, A1 = (if co23 = ((ji12) : Int).toNat then Ao23 else (Ao23 : Option Addr).map (·.add (((ji12) : Int).toNat * 1))) := ⟨_, rfl⟩
                    obtain ⟨c31, hc31⟩ : ∃ c1, c1 = co23 - ((ji12) : Int).toNat := ⟨_, rfl⟩
                    have hy31 : y346.length = t323.length - ((ji12) : Int).toNat := (by rw [Ny346.out, List.length_drop] <;> omega)
                    rw [show (t323).drop ((ji12) : Int).toNat = y346 from Ny346.out.symm] at hr31
                    replace hr31 : Kd.C Kd.string _ A31 y346.length y346 := (by rw [hA31]; exact hr31)
                    rw [← hy31, ← hA31, ← hc31] at hcut31
                    have HR349 := Aside0.mk hr31
                    have HC349 := Aside0.mk (show y346.length ≤ c31 from by rw [hy31, hc31]; exact Nat.sub_le_sub_right hroom31 _)
                    clear hr31 hC31 hroom31 hi031 hsz31 hc31
                    have KY31 := Aside0.mk hy31
                    have KA31 := Aside0.mk hA31
                    clear hy31 hA31
                    have KL31 := Aside0.mk (show ((ji12) : Int).toNat ≤ t323.length from by omega)
                    replace q31 := eq_true q31
                    refine start_ (n := 11) (S := fun w' => True) (ds := []) #[false, false, false, false, false, false, false, false, false, false, false] (by kernel_rfl) rfl rfl trivial (fun hHeld => ?_); refine with_tabW laws_FnPathCut.tab9 laws_FnPathCut.bits9 (fun HT_ HW_ => ?_)
                    generalize w29.drew = w30 at HO325 HO328 HO331 HO339 HR336 HB HR349 hHeld ⊢
                    refine pure_ (i := 1) (N := some 37) (v := ?_) (a' := ?_) #[false, true, false, false, false, false, false, false, false, false, false] rfl rfl (any_of HT_.out (by kernel_rfl)) (fun _ _ _ h => h) (Or.inl ⟨by rfl, ?_⟩) ?_ ?_
                    rotate_left
                    · intro w'
                      go_simp
                      with_reducible rfl
                    rotate_left
                    · simp only [Act.put, List.setIfInBounds_toArray, List.set_cons_zero, List.set_cons_succ, i64_w, i32_w]
                      rfl
                    refine pure_ (i := 3) (N := some 39) (v := ?_) (a' := ?_) #[false, true, false, true, false, false, false, false, false, false, false] rfl rfl (any_of HT_.out (by kernel_rfl)) (fun _ _ _ h => h) (Or.inl ⟨by rfl, ?_⟩) ?_ ?_
                    rotate_left
                    · intro w'
                      go_simp
                      with_reducible rfl
                    rotate_left
                    · simp only [Act.put, List.setIfInBounds_toArray, List.set_cons_zero, List.set_cons_succ, i64_w, i32_w]
                      rfl
                    refine pure_ (i := 4) (N := some 40) (v := ?_) (a' := ?_) #[false, true, false, true, true, false, false, false, false, false, false] rfl rfl (any_of HT_.out (by kernel_rfl)) (fun _ _ _ h => h) (Or.inl ⟨by rfl, ?_⟩) ?_ ?_
                    rotate_left
                    · intro w'
                      go_simp
                      with_reducible rfl
                    rotate_left
                    · simp only [Act.put, List.setIfInBounds_toArray, List.set_cons_zero, List.set_cons_succ, i64_w, i32_w]
                      rfl
                    refine pure_ (i := 5) (N := some 41) (v := ?_) (a' := ?_) #[false, true, false, true, true, true, false, false, false, false, false] rfl rfl (any_of HT_.out (by kernel_rfl)) (fun _ _ _ h => h) (Or.inl ⟨by rfl, ?_⟩) ?_ ?_
                    rotate_left
                    · intro w'
                      go_simp
                      with_reducible rfl
                    rotate_left
                    · simp only [Act.put, List.setIfInBounds_toArray, List.set_cons_zero, List.set_cons_succ, i64_w, i32_w]
                      rfl
                    refine pure_ (i := 8) (N := some 44) (v := ?_) (a' := ?_) #[false, true, false, true, true, true, false, false, true, false, false] rfl rfl (any_of HT_.out (by kernel_rfl)) (fun _ _ _ h => h) (Or.inl ⟨by rfl, ?_⟩) ?_ ?_
                    rotate_left
                    · intro w'
                      go_simp
                      with_reducible rfl
                    rotate_left
                    · simp only [Act.put, List.setIfInBounds_toArray, List.set_cons_zero, List.set_cons_succ, i64_w, i32_w]
                      rfl
                    refine one_ (i := 0) (N := some 36) #[true, true, false, true, true, true, false, false, true, false, false] rfl rfl (one_of HT_.out (by kernel_rfl)) (by decide) (fun K hK => ?_)
                    refine Kd.R_lit_step Kd.string _ 9 ?hg (N := 36) ?hd (xs := ([] : List ByteArray)) (inner := []) (ok := fun _ => True) (okp := fun _ => True) ?hr ?hp (fun _ hk => hk) trivial (Below.refl _ _) (Nat.le_refl _) (by simp) ?_; (case hd => rfl); (case hg => rfl); (case hr => first | (go_simp; done) | (go_simp; rfl)); (case hp => exact (Reps.none _ _))
                    intro v341 w32 ho33 hb hg_ hnew_
                    clear hg_ hnew_
                    (first | rw [← Ny340.out] at ho33 | (simp only [Int.reduceToNat] at ho33; rw [← Ny340.out] at ho33))
                    have n0_ := Aside0.mk (Kd.R_elder' (by (with_reducible repeat (first | apply Kd.R_alloc | apply Kd.R_drewN | apply Kd.R_drew)); exact HO325.out) (Kd.R_base ho33) hb)
                    have n1_ := Aside0.mk (Kd.R_elder' (by (with_reducible repeat (first | apply Kd.R_alloc | apply Kd.R_drewN | apply Kd.R_drew)); exact HO328.out) (Kd.R_base ho33) hb)
                    have n2_ := Aside0.mk (Kd.R_elder' (by (with_reducible repeat (first | apply Kd.R_alloc | apply Kd.R_drewN | apply Kd.R_drew)); exact HO331.out) (Kd.R_base ho33) hb)
                    have n3_ := Aside0.mk (Kd.R_elder' (by (with_reducible repeat (first | apply Kd.R_alloc | apply Kd.R_drewN | apply Kd.R_drew)); exact HO339.out) (Kd.R_base ho33) hb)
                    have n4_ := Aside0.mk (Kd.R_lower (Kd.R_new' (Kd.R_new' (Kd.R_new' (Kd.R_new' ho33 (Kd.R_lt (by (with_reducible repeat (first | apply Kd.R_alloc | apply Kd.R_drewN | apply Kd.R_drew)); exact HO325.out))) (Kd.R_lt (by (with_reducible repeat (first | apply Kd.R_alloc | apply Kd.R_drewN | apply Kd.R_drew)); exact HO328.out))) (Kd.R_lt (by (with_reducible repeat (first | apply Kd.R_alloc | apply Kd.R_drewN | apply Kd.R_drew)); exact HO331.out))) (Kd.R_lt (by (with_reducible repeat (first | apply Kd.R_alloc | apply Kd.R_drewN | apply Kd.R_drew)); exact HO339.out))) (below_size (by repeat (first | (with_reducible first | exact HB.out | apply below_alloc | apply pw_below_drewN | apply below_drew1) | exact HB.out))))
                    have n5_ := Aside0.mk (Kd.C_below (by repeat (first | (with_reducible exact HR336.out) | (with_reducible refine Kd.C_alloc ?_ _) | (with_reducible refine Kd.C_drewN ?_ _) | (with_reducible refine Kd.C_drew ?_) | exact HR336.out)) hb)
                    have n6_ := Aside0.mk (Kd.C_below (by repeat (first | (with_reducible exact HR349.out) | (with_reducible refine Kd.C_alloc ?_ _) | (with_reducible refine Kd.C_drewN ?_ _) | (with_reducible refine Kd.C_drew ?_) | exact HR349.out)) hb)
                    have n7_ := Aside0.mk (below_step (by repeat (first | (with_reducible first | exact HB.out | apply below_alloc | apply pw_below_drewN | apply below_drew1) | exact HB.out)) hb)
                    clear HO325
                    clear HO328
                    clear HO331
                    clear HO339
                    clear HR336
                    clear HR349
                    clear HB
                    have HO325 := n0_
                    have HO328 := n1_
                    have HO331 := n2_
                    have HO339 := n3_
                    have HO342 := n4_
                    have HR336 := n5_
                    have HR349 := n6_
                    have HB := n7_
                    clear n0_ n1_ n2_ n3_ n4_ n5_ n6_ n7_
                    clear hb ho33
                    obtain ⟨Ao35, co35, eo35⟩ := Kd.R_slice HO339.out
                    (first | subst eo35 | (injection eo35 with f1_ f2_ f3_; have f4_ := f1_.symm; have f5_ := f3_.symm; clear f1_ f2_ f3_; subst f4_; subst f5_))
                    refine hK.out _ _ trivial (fun hHeld => ?_)
                    clear hK K
                    refine norm_ (a' := ?_) ?_ ?_
                    rotate_left
                    · show Act.put _ (some 36) _ = _
                      simp only [Act.put, List.setIfInBounds_toArray, List.set_cons_zero, List.set_cons_succ, i64_w, i32_w]
                      rfl
                    refine one_ (i := 2) (N := some 38) #[true, true, true, true, true, true, false, false, true, false, false] rfl rfl (one_of HT_.out (by kernel_rfl)) (by decide) (fun K hK => ?_)
                    refine Kd.R_append_rows_step Kd.string (w0 := w) w.heap.size (by rfl) (.tmp 36) (.tmp 37) 24 9 (.string ⟨#[]⟩) 16 rfl Try.underlying24 info9 rfl (by decide) (by omega) v341 y340 t337 _ _ _ (fun k_ => some k_ ≠ (.slice Ao23 t323.length co23 : Value).ownBlock ∧ some k_ ≠ (.slice Ao26 t326.length co26 : Value).ownBlock ∧ some k_ ≠ (.slice Ao27 t329.length co27 : Value).ownBlock ∧ some k_ ≠ (.slice Ao35 t337.length co35 : Value).ownBlock) (fun _ => False) rfl rfl ?aO ?aR (fun _ _ h => h) (fun _ h => h.elim) ?aF ?aB ?aS ?aL ?_
                    (case aR => repeat (first | exact (Kd.R_reads' HO339.out).2.2 | (with_reducible refine Kd.C_alloc ?_ _) | (with_reducible refine Kd.C_drewN ?_ _) | (with_reducible refine Kd.C_drew ?_)))
                    (case aB => exact (by repeat (first | (with_reducible first | exact HB.out | apply below_alloc | apply pw_below_drewN | apply below_drew1) | exact HB.out)))
                    (case aF => exact (fun k_ hk => ⟨Kd.fresh' (Kd.R_lt (by (with_reducible repeat (first | apply Kd.R_alloc | apply Kd.R_drewN | apply Kd.R_drew)); exact HO325.out)) k_ hk, Kd.fresh' (Kd.R_lt (by (with_reducible repeat (first | apply Kd.R_alloc | apply Kd.R_drewN | apply Kd.R_drew)); exact HO328.out)) k_ hk, Kd.fresh' (Kd.R_lt (by (with_reducible repeat (first | apply Kd.R_alloc | apply Kd.R_drewN | apply Kd.R_drew)); exact HO331.out)) k_ hk, Kd.fresh' (Kd.R_lt (by (with_reducible repeat (first | apply Kd.R_alloc | apply Kd.R_drewN | apply Kd.R_drew)); exact HO339.out)) k_ hk⟩))
                    (case aO => exact (by (with_reducible repeat (first | apply Kd.R_alloc | apply Kd.R_drewN | apply Kd.R_drew)); exact Kd.R_mono HO342.out (fun _ hk => ⟨hk.1.1.1.2, ⟨hk.1.1.2, ⟨hk.1.2, hk.2⟩⟩⟩)))
                    (case aS => exact (below_size (by repeat (first | (with_reducible first | exact HB.out | apply below_alloc | apply pw_below_drewN | apply below_drew1) | exact HB.out))))
                    (case aL => have := LMc16.out; omega)
                    intro v344 w34 ho hb hg hat
                    rw [← Ny343.out] at ho
                    have n0_ := Aside0.mk (Kd.R_after (ok := (fun k_ => some k_ ≠ (.slice Ao26 t326.length co26 : Value).ownBlock ∧ some k_ ≠ (.slice Ao27 t329.length co27 : Value).ownBlock ∧ some k_ ≠ (.slice Ao35 t337.length co35 : Value).ownBlock)) (by (with_reducible repeat (first | apply Kd.R_alloc | apply Kd.R_drewN | apply Kd.R_drew)); exact Kd.R_mono HO325.out (fun _ hk => ⟨⟨hk.1.1.1.2, ⟨hk.1.1.2, hk.1.2⟩⟩, hk.2⟩)) hg hat)
                    have n1_ := Aside0.mk (Kd.R_after (ok := (fun k_ => some k_ ≠ (.slice Ao23 t323.length co23 : Value).ownBlock ∧ some k_ ≠ (.slice Ao27 t329.length co27 : Value).ownBlock ∧ some k_ ≠ (.slice Ao35 t337.length co35 : Value).ownBlock)) (by (with_reducible repeat (first | apply Kd.R_alloc | apply Kd.R_drewN | apply Kd.R_drew)); exact Kd.R_mono HO328.out (fun _ hk => ⟨⟨hk.1.1.1.2, ⟨hk.1.1.2, hk.1.2⟩⟩, hk.2⟩)) hg hat)
                    have n2_ := Aside0.mk (Kd.R_after (ok := (fun k_ => some k_ ≠ (.slice Ao23 t323.length co23 : Value).ownBlock ∧ some k_ ≠ (.slice Ao26 t326.length co26 : Value).ownBlock ∧ some k_ ≠ (.slice Ao35 t337.length co35 : Value).ownBlock)) (by (with_reducible repeat (first | apply Kd.R_alloc | apply Kd.R_drewN | apply Kd.R_drew)); exact Kd.R_mono HO331.out (fun _ hk => ⟨⟨hk.1.1.1.2, ⟨hk.1.1.2, hk.1.2⟩⟩, hk.2⟩)) hg hat)
                    have n3_ := Aside0.mk (Kd.R_after (ok := (fun k_ => some k_ ≠ (.slice Ao23 t323.length co23 : Value).ownBlock ∧ some k_ ≠ (.slice Ao26 t326.length co26 : Value).ownBlock ∧ some k_ ≠ (.slice Ao27 t329.length co27 : Value).ownBlock)) (by (with_reducible repeat (first | apply Kd.R_alloc | apply Kd.R_drewN | apply Kd.R_drew)); exact Kd.R_mono HO339.out (fun _ hk => ⟨⟨hk.1.1.1.2, ⟨hk.1.1.2, hk.1.2⟩⟩, hk.2⟩)) hg hat)
                    have n4_ := Aside0.mk (hb)
                    have n5_ := Aside0.mk ((show Kd.C Kd.string w34 Ao23 y333.length y333 from by rw [Ny333.out]; exact Kd.C_take (m := ((ji12) : Int).toNat) ((Kd.R_reads' (Kd.R_after (ok := (fun k_ => some k_ ≠ (.slice Ao26 t326.length co26 : Value).ownBlock ∧ some k_ ≠ (.slice Ao27 t329.length co27 : Value).ownBlock ∧ some k_ ≠ (.slice Ao35 t337.length co35 : Value).ownBlock)) (by (with_reducible repeat (first | apply Kd.R_alloc | apply Kd.R_drewN | apply Kd.R_drew)); exact Kd.R_mono HO325.out (fun _ hk => ⟨⟨hk.1.1.1.2, ⟨hk.1.1.2, hk.1.2⟩⟩, hk.2⟩)) hg hat)).2.2) KL28.out))
                    have n6_ := Aside0.mk ((show Kd.C Kd.string w34 A31 y346.length y346 from by rw [Ny346.out, KA31.out]; exact Kd.C_drop (m := ((ji12) : Int).toNat) (c := co23) ((Kd.R_reads' (Kd.R_after (ok := (fun k_ => some k_ ≠ (.slice Ao26 t326.length co26 : Value).ownBlock ∧ some k_ ≠ (.slice Ao27 t329.length co27 : Value).ownBlock ∧ some k_ ≠ (.slice Ao35 t337.length co35 : Value).ownBlock)) (by (with_reducible repeat (first | apply Kd.R_alloc | apply Kd.R_drewN | apply Kd.R_drew)); exact Kd.R_mono HO325.out (fun _ hk => ⟨⟨hk.1.1.1.2, ⟨hk.1.1.2, hk.1.2⟩⟩, hk.2⟩)) hg hat)).2.2) KL31.out ((Kd.R_reads' (Kd.R_after (ok := (fun k_ => some k_ ≠ (.slice Ao26 t326.length co26 : Value).ownBlock ∧ some k_ ≠ (.slice Ao27 t329.length co27 : Value).ownBlock ∧ some k_ ≠ (.slice Ao35 t337.length co35 : Value).ownBlock)) (by (with_reducible repeat (first | apply Kd.R_alloc | apply Kd.R_drewN | apply Kd.R_drew)); exact Kd.R_mono HO325.out (fun _ hk => ⟨⟨hk.1.1.1.2, ⟨hk.1.1.2, hk.1.2⟩⟩, hk.2⟩)) hg hat)).2.1)))
                    have n7_ := Aside0.mk (ho)
                    clear HO325
                    clear HO328
                    clear HO331
                    clear HO339
                    clear HB
                    clear HR336
                    clear HR349
                    clear HO342
                    have HO325 := n0_
                    have HO328 := n1_
                    have HO331 := n2_
                    have HO339 := n3_
                    have HB := n4_
                    have HR336 := n5_
                    have HR349 := n6_
                    have HO345 := n7_
                    clear n0_ n1_ n2_ n3_ n4_ n5_ n6_ n7_
                    clear ho hb hg hat
                    refine hK.out _ _ trivial (fun hHeld => ?_)
                    clear hK K
                    refine norm_ (a' := ?_) ?_ ?_
                    rotate_left
                    · show Act.put _ (some 38) _ = _
                      simp only [Act.put, List.setIfInBounds_toArray, List.set_cons_zero, List.set_cons_succ, i64_w, i32_w]
                      rfl
                    refine one_ (i := 6) (N := some 42) #[true, true, true, true, true, true, true, false, true, false, false] rfl rfl (one_of HT_.out (by kernel_rfl)) (by decide) (fun K hK => ?_)
                    refine Kd.R_append_rows_step Kd.string (w0 := w) w.heap.size (by rfl) (.tmp 38) (.tmp 41) 24 9 (.string ⟨#[]⟩) 16 rfl Try.underlying24 info9 rfl (by decide) (by omega) v344 y343 y346 _ _ _ (fun k_ => some k_ ≠ (.slice Ao23 t323.length co23 : Value).ownBlock ∧ some k_ ≠ (.slice Ao26 t326.length co26 : Value).ownBlock ∧ some k_ ≠ (.slice Ao27 t329.length co27 : Value).ownBlock ∧ some k_ ≠ (.slice Ao35 t337.length co35 : Value).ownBlock) (fun _ => False) rfl rfl ?aO ?aR (fun _ _ h => h) (fun _ h => h.elim) ?aF ?aB ?aS ?aL ?_
                    (case aR => repeat (first | exact (by repeat (first | (with_reducible exact HR349.out) | (with_reducible refine Kd.C_alloc ?_ _) | (with_reducible refine Kd.C_drewN ?_ _) | (with_reducible refine Kd.C_drew ?_) | exact HR349.out)) | (with_reducible refine Kd.C_alloc ?_ _) | (with_reducible refine Kd.C_drewN ?_ _) | (with_reducible refine Kd.C_drew ?_)))
                    (case aB => exact (by repeat (first | (with_reducible first | exact HB.out | apply below_alloc | apply pw_below_drewN | apply below_drew1) | exact HB.out)))
                    (case aF => exact (fun k_ hk => ⟨Kd.fresh' (Kd.R_lt (by (with_reducible repeat (first | apply Kd.R_alloc | apply Kd.R_drewN | apply Kd.R_drew)); exact HO325.out)) k_ hk, Kd.fresh' (Kd.R_lt (by (with_reducible repeat (first | apply Kd.R_alloc | apply Kd.R_drewN | apply Kd.R_drew)); exact HO328.out)) k_ hk, Kd.fresh' (Kd.R_lt (by (with_reducible repeat (first | apply Kd.R_alloc | apply Kd.R_drewN | apply Kd.R_drew)); exact HO331.out)) k_ hk, Kd.fresh' (Kd.R_lt (by (with_reducible repeat (first | apply Kd.R_alloc | apply Kd.R_drewN | apply Kd.R_drew)); exact HO339.out)) k_ hk⟩))
                    (case aO => exact (by (with_reducible repeat (first | apply Kd.R_alloc | apply Kd.R_drewN | apply Kd.R_drew)); exact HO345.out))
                    (case aS => exact (below_size (by repeat (first | (with_reducible first | exact HB.out | apply below_alloc | apply pw_below_drewN | apply below_drew1) | exact HB.out))))
                    (case aL => have := LMc19.out; omega)
                    intro v351 w36 ho hb hg hat
                    rw [← Ny350.out] at ho
                    have n0_ := Aside0.mk (Kd.R_after (ok := (fun k_ => some k_ ≠ (.slice Ao26 t326.length co26 : Value).ownBlock ∧ some k_ ≠ (.slice Ao27 t329.length co27 : Value).ownBlock ∧ some k_ ≠ (.slice Ao35 t337.length co35 : Value).ownBlock)) (by (with_reducible repeat (first | apply Kd.R_alloc | apply Kd.R_drewN | apply Kd.R_drew)); exact HO325.out) hg hat)
                    have n1_ := Aside0.mk (Kd.R_after (ok := (fun k_ => some k_ ≠ (.slice Ao23 t323.length co23 : Value).ownBlock ∧ some k_ ≠ (.slice Ao27 t329.length co27 : Value).ownBlock ∧ some k_ ≠ (.slice Ao35 t337.length co35 : Value).ownBlock)) (by (with_reducible repeat (first | apply Kd.R_alloc | apply Kd.R_drewN | apply Kd.R_drew)); exact HO328.out) hg hat)
                    have n2_ := Aside0.mk (Kd.R_after (ok := (fun k_ => some k_ ≠ (.slice Ao23 t323.length co23 : Value).ownBlock ∧ some k_ ≠ (.slice Ao26 t326.length co26 : Value).ownBlock ∧ some k_ ≠ (.slice Ao35 t337.length co35 : Value).ownBlock)) (by (with_reducible repeat (first | apply Kd.R_alloc | apply Kd.R_drewN | apply Kd.R_drew)); exact HO331.out) hg hat)
                    have n3_ := Aside0.mk (Kd.R_after (ok := (fun k_ => some k_ ≠ (.slice Ao23 t323.length co23 : Value).ownBlock ∧ some k_ ≠ (.slice Ao26 t326.length co26 : Value).ownBlock ∧ some k_ ≠ (.slice Ao27 t329.length co27 : Value).ownBlock)) (by (with_reducible repeat (first | apply Kd.R_alloc | apply Kd.R_drewN | apply Kd.R_drew)); exact HO339.out) hg hat)
                    have n4_ := Aside0.mk (hb)
                    have n5_ := Aside0.mk ((show Kd.C Kd.string w36 Ao23 y333.length y333 from by rw [Ny333.out]; exact Kd.C_take (m := ((ji12) : Int).toNat) ((Kd.R_reads' (Kd.R_after (ok := (fun k_ => some k_ ≠ (.slice Ao26 t326.length co26 : Value).ownBlock ∧ some k_ ≠ (.slice Ao27 t329.length co27 : Value).ownBlock ∧ some k_ ≠ (.slice Ao35 t337.length co35 : Value).ownBlock)) (by (with_reducible repeat (first | apply Kd.R_alloc | apply Kd.R_drewN | apply Kd.R_drew)); exact HO325.out) hg hat)).2.2) KL28.out))
                    have n6_ := Aside0.mk ((show Kd.C Kd.string w36 A31 y346.length y346 from by rw [Ny346.out, KA31.out]; exact Kd.C_drop (m := ((ji12) : Int).toNat) (c := co23) ((Kd.R_reads' (Kd.R_after (ok := (fun k_ => some k_ ≠ (.slice Ao26 t326.length co26 : Value).ownBlock ∧ some k_ ≠ (.slice Ao27 t329.length co27 : Value).ownBlock ∧ some k_ ≠ (.slice Ao35 t337.length co35 : Value).ownBlock)) (by (with_reducible repeat (first | apply Kd.R_alloc | apply Kd.R_drewN | apply Kd.R_drew)); exact HO325.out) hg hat)).2.2) KL31.out ((Kd.R_reads' (Kd.R_after (ok := (fun k_ => some k_ ≠ (.slice Ao26 t326.length co26 : Value).ownBlock ∧ some k_ ≠ (.slice Ao27 t329.length co27 : Value).ownBlock ∧ some k_ ≠ (.slice Ao35 t337.length co35 : Value).ownBlock)) (by (with_reducible repeat (first | apply Kd.R_alloc | apply Kd.R_drewN | apply Kd.R_drew)); exact HO325.out) hg hat)).2.1)))
                    have n7_ := Aside0.mk (ho)
                    clear HO325
                    clear HO328
                    clear HO331
                    clear HO339
                    clear HB
                    clear HR336
                    clear HR349
                    clear HO345
                    have HO325 := n0_
                    have HO328 := n1_
                    have HO331 := n2_
                    have HO339 := n3_
                    have HB := n4_
                    have HR336 := n5_
                    have HR349 := n6_
                    have HO352 := n7_
                    clear n0_ n1_ n2_ n3_ n4_ n5_ n6_ n7_
                    clear ho hb hg hat
                    obtain ⟨Ao37, co37, eo37⟩ := Kd.R_slice HO352.out
                    (first | subst eo37 | (injection eo37 with f1_ f2_ f3_; have f4_ := f1_.symm; have f5_ := f3_.symm; clear f1_ f2_ f3_; subst f4_; subst f5_))
                    refine hK.out _ _ trivial (fun hHeld => ?_)
                    clear hK K
                    refine norm_ (a' := ?_) ?_ ?_
                    rotate_left
                    · show Act.put _ (some 42) _ = _
                      simp only [Act.put, List.setIfInBounds_toArray, List.set_cons_zero, List.set_cons_succ, i64_w, i32_w]
                      rfl
                    refine one_ (i := 7) (N := some 43) #[true, true, true, true, true, true, true, true, true, false, false] rfl rfl (one_of HT_.out (by kernel_rfl)) (by decide) (fun K hK => ?_)
                    refine goes_ Try.func18 (by kernel_rfl) rfl #[.slice Ao37 y350.length co37] (by rfl) rfl rfl (by (try simp only [List.map_toArray, List.map_cons, List.map_nil]); first | done | rfl | (simp only [List.length_drop, List.length_take]; rfl)) ?_
                    with_reducible refine (impl_PathClean.calls kj2 _ _ y350 t353 _ ?side1 ?side2 A20.out).mono ?_
                    (case side1 => repeat (first | exact (Kd.R_reads' HO352.out).2.2 | (with_reducible refine Kd.C_alloc ?_ _) | (with_reducible refine Kd.C_drewN ?_ _) | (with_reducible refine Kd.C_drew ?_)))
                    (case side2 => exact (Kd.R_reads' HO352.out).2.1)
                    rintro e w38 ⟨v354, rfl, ho0, hb⟩
                    refine ⟨_, rfl, ?_⟩
                    have n0_ := Aside0.mk (Kd.R_elder' (by (with_reducible repeat (first | apply Kd.R_alloc | apply Kd.R_drewN | apply Kd.R_drew)); exact HO325.out) (Kd.R_base ho0) hb)
                    have n1_ := Aside0.mk (Kd.R_elder' (by (with_reducible repeat (first | apply Kd.R_alloc | apply Kd.R_drewN | apply Kd.R_drew)); exact HO328.out) (Kd.R_base ho0) hb)
                    have n2_ := Aside0.mk (Kd.R_elder' (by (with_reducible repeat (first | apply Kd.R_alloc | apply Kd.R_drewN | apply Kd.R_drew)); exact HO331.out) (Kd.R_base ho0) hb)
                    have n3_ := Aside0.mk (Kd.R_elder' (by (with_reducible repeat (first | apply Kd.R_alloc | apply Kd.R_drewN | apply Kd.R_drew)); exact HO339.out) (Kd.R_base ho0) hb)
                    have n4_ := Aside0.mk (Kd.R_elder' (by (with_reducible repeat (first | apply Kd.R_alloc | apply Kd.R_drewN | apply Kd.R_drew)); exact HO352.out) (Kd.R_base ho0) hb)
                    have n5_ := Aside0.mk (Kd.R_lower (Kd.R_new' (Kd.R_new' (Kd.R_new' (Kd.R_new' (Kd.R_new' ho0 (Kd.R_lt (by (with_reducible repeat (first | apply Kd.R_alloc | apply Kd.R_drewN | apply Kd.R_drew)); exact HO325.out))) (Kd.R_lt (by (with_reducible repeat (first | apply Kd.R_alloc | apply Kd.R_drewN | apply Kd.R_drew)); exact HO328.out))) (Kd.R_lt (by (with_reducible repeat (first | apply Kd.R_alloc | apply Kd.R_drewN | apply Kd.R_drew)); exact HO331.out))) (Kd.R_lt (by (with_reducible repeat (first | apply Kd.R_alloc | apply Kd.R_drewN | apply Kd.R_drew)); exact HO339.out))) (Kd.R_lt (by (with_reducible repeat (first | apply Kd.R_alloc | apply Kd.R_drewN | apply Kd.R_drew)); exact HO352.out))) (below_size (by repeat (first | (with_reducible first | exact HB.out | apply below_alloc | apply pw_below_drewN | apply below_drew1) | exact HB.out))))
                    have n6_ := Aside0.mk (Kd.C_below (by repeat (first | (with_reducible exact HR336.out) | (with_reducible refine Kd.C_alloc ?_ _) | (with_reducible refine Kd.C_drewN ?_ _) | (with_reducible refine Kd.C_drew ?_) | exact HR336.out)) hb)
                    have n7_ := Aside0.mk (Kd.C_below (by repeat (first | (with_reducible exact HR349.out) | (with_reducible refine Kd.C_alloc ?_ _) | (with_reducible refine Kd.C_drewN ?_ _) | (with_reducible refine Kd.C_drew ?_) | exact HR349.out)) hb)
                    have n8_ := Aside0.mk (below_step (by repeat (first | (with_reducible first | exact HB.out | apply below_alloc | apply pw_below_drewN | apply below_drew1) | exact HB.out)) hb)
                    clear HO325
                    clear HO328
                    clear HO331
                    clear HO339
                    clear HO352
                    clear HR336
                    clear HR349
                    clear HB
                    have HO325 := n0_
                    have HO328 := n1_
                    have HO331 := n2_
                    have HO339 := n3_
                    have HO352 := n4_
                    have HO355 := n5_
                    have HR336 := n6_
                    have HR349 := n7_
                    have HB := n8_
                    clear n0_ n1_ n2_ n3_ n4_ n5_ n6_ n7_ n8_
                    (try clear hb)
                    (try clear hb2)
                    (try clear hk)
                    (try clear hi)
                    (try clear ho0)
                    obtain ⟨Ao39, co39, eo39⟩ := Kd.R_slice HO355.out
                    (first | subst eo39 | (injection eo39 with f1_ f2_ f3_; have f4_ := f1_.symm; have f5_ := f3_.symm; clear f1_ f2_ f3_; subst f4_; subst f5_))
                    refine hK.out _ _ trivial (fun hHeld => ?_)
                    clear hK K
                    refine norm_ (a' := ?_) ?_ ?_
                    rotate_left
                    · show Act.put _ (some 43) _ = _
                      simp only [Act.put, List.setIfInBounds_toArray, List.set_cons_zero, List.set_cons_succ, i64_w, i32_w]
                      rfl
                    refine one_ (i := 9) (N := some 45) #[true, true, true, true, true, true, true, true, true, true, false] rfl rfl (one_of HT_.out (by kernel_rfl)) (by decide) (fun K hK => ?_)
                    refine goes_ Try.func19 (by kernel_rfl) rfl #[.slice Ao39 t353.length co39, .slice Ao26 t326.length co26] (by rfl) rfl rfl (by (try simp only [List.map_toArray, List.map_cons, List.map_nil]); first | done | rfl | (simp only [List.length_drop, List.length_take]; rfl)) ?_
                    with_reducible refine (laws_lpTexts.calls kj2 _ _ t353 _ _ t326 t356 _ ?side1 ?side2 ?side3 ?side4 A21.out).mono ?_
                    (case side1 => repeat (first | exact (Kd.R_reads' HO355.out).2.2 | (with_reducible refine Kd.C_alloc ?_ _) | (with_reducible refine Kd.C_drewN ?_ _) | (with_reducible refine Kd.C_drew ?_)))
                    (case side2 => exact (Kd.R_reads' HO355.out).2.1)
                    (case side3 => repeat (first | exact (Kd.R_reads' HO328.out).2.2 | (with_reducible refine Kd.C_alloc ?_ _) | (with_reducible refine Kd.C_drewN ?_ _) | (with_reducible refine Kd.C_drew ?_)))
                    (case side4 => exact (Kd.R_reads' HO328.out).2.1)
                    rintro e w' ⟨rfl, ⟨nd, rfl⟩⟩
                    refine ⟨_, rfl, ?_⟩
                    refine hK.out _ _ trivial (fun hHeld => ?_)
                    clear hK K
                    refine norm_ (a' := ?_) ?_ ?_
                    rotate_left
                    · show Act.put _ (some 45) _ = _
                      simp only [Act.put, List.setIfInBounds_toArray, List.set_cons_zero, List.set_cons_succ, i64_w, i32_w]
                      rfl
                    refine pure_ (i := 10) (N := some 4) (v := ?_) (a' := ?_) #[true, true, true, true, true, true, true, true, true, true, true] rfl rfl (any_of HT_.out (by kernel_rfl)) (fun _ _ _ h => h) (Or.inl ⟨by rfl, ?_⟩) ?_ ?_
                    rotate_left
                    · intro w'
                      go_simp
                      with_reducible rfl
                    rotate_left
                    · simp only [Act.put, List.setIfInBounds_toArray, List.set_cons_zero, List.set_cons_succ, i64_w, i32_w]
                      rfl
                    refine done_ (done_of HT_.out (by kernel_rfl)) ?_
                    try go_wp2
                    go_ret
                    exact ⟨by first | rfl | (simp [errW_none, errW_some] <;> rfl) | (simp only [← hji12]; first | rfl | (simp [errW_none, errW_some] <;> rfl)) | (simp [*, errW_none, errW_some] <;> rfl), by repeat (first | (with_reducible first | exact HB.out | apply below_alloc | apply pw_below_drewN | apply below_drew1) | exact HB.out)⟩
                  · rw [if_neg c19] at H
                    exact absurd H (by simp)
                · rw [if_neg c16] at H
                  exact absurd H (by simp)
              · rw [if_neg c14] at H
                exact absurd H (by simp)
            · rw [if_neg c13] at H
              exact absurd H (by simp)
        · replace c10 := Bool.eq_false_iff.mpr c10
          subst c10
          have H1 : (some false) = some r := by rw [if_neg (show ¬ (false = true) by decide)] at H; exact H
          clear H
          have H := H1
          clear H1
          obtain rfl := Option.some.inj H
          go_wp2_with (first | ((with_reducible refine gate_callee (f := 17) rfl ?_); refine goesL_ (some 18) rfl rfl Try.func17 (by kernel_rfl) rfl #[.slice A0 l0.length c0] rfl (by (try simp only [List.map_toArray, List.map_cons, List.map_nil]); first | done | rfl | (simp only [List.length_drop, List.length_take]; rfl)) ?_; (with_reducible refine (spec_DrawPathClean.calls kj2 _ _ l0 t323 _ ?side1 ?side2 A6.out).mono ?_); (case side1 => repeat (first | exact (Kd.C_below HR0.out HB.out) | (with_reducible refine Kd.C_alloc ?_ _) | (with_reducible refine Kd.C_drewN ?_ _) | (with_reducible refine Kd.C_drew ?_))); (case side2 => exact HC0.out); rintro e w40 ⟨v324, rfl, ho0, hb⟩; refine ⟨_, rfl, ?_⟩; have n0_ := Aside0.mk (Kd.R_lower ho0 (below_size (by repeat (first | (with_reducible first | exact HB.out | apply below_alloc | apply pw_below_drewN | apply below_drew1) | exact HB.out)))); have n1_ := Aside0.mk (below_step (by repeat (first | (with_reducible first | exact HB.out | apply below_alloc | apply pw_below_drewN | apply below_drew1) | exact HB.out)) hb); clear HB; have HO325 := n0_; have HB := n1_; clear n0_ n1_; (try clear hb); (try clear hb2); (try clear hk); (try clear hi); (try clear ho0); obtain ⟨Ao41, co41, eo41⟩ := Kd.R_slice HO325.out; subst eo41) | ((with_reducible refine gate_callee (f := 18) rfl ?_); refine goesL_ (some 20) rfl rfl Try.func18 (by kernel_rfl) rfl #[.slice Ao41 t323.length co41] rfl (by (try simp only [List.map_toArray, List.map_cons, List.map_nil]); first | done | rfl | (simp only [List.length_drop, List.length_take]; rfl)) ?_; (with_reducible refine (impl_PathClean.calls kj2 _ _ t323 t326 _ ?side1 ?side2 A7.out).mono ?_); (case side1 => repeat (first | exact (Kd.R_reads' HO325.out).2.2 | (with_reducible refine Kd.C_alloc ?_ _) | (with_reducible refine Kd.C_drewN ?_ _) | (with_reducible refine Kd.C_drew ?_))); (case side2 => exact (Kd.R_reads' HO325.out).2.1); rintro e w42 ⟨v327, rfl, ho0, hb⟩; refine ⟨_, rfl, ?_⟩; have n0_ := Aside0.mk (Kd.R_elder' (by (with_reducible repeat (first | apply Kd.R_alloc | apply Kd.R_drewN | apply Kd.R_drew)); exact HO325.out) (Kd.R_base ho0) hb); have n1_ := Aside0.mk (Kd.R_lower (Kd.R_new' ho0 (Kd.R_lt (by (with_reducible repeat (first | apply Kd.R_alloc | apply Kd.R_drewN | apply Kd.R_drew)); exact HO325.out))) (below_size (by repeat (first | (with_reducible first | exact HB.out | apply below_alloc | apply pw_below_drewN | apply below_drew1) | exact HB.out)))); have n2_ := Aside0.mk (below_step (by repeat (first | (with_reducible first | exact HB.out | apply below_alloc | apply pw_below_drewN | apply below_drew1) | exact HB.out)) hb); clear HO325; clear HB; have HO325 := n0_; have HO328 := n1_; have HB := n2_; clear n0_ n1_ n2_; (try clear hb); (try clear hb2); (try clear hk); (try clear hi); (try clear ho0)) | ((with_reducible refine gate_callee (f := 20) rfl ?_); refine goesL_ (some 23) rfl rfl Try.func20 (by kernel_rfl) rfl #[.slice Ao41 t323.length co41] rfl (by (try simp only [List.map_toArray, List.map_cons, List.map_nil]); first | done | rfl | (simp only [List.length_drop, List.length_take]; rfl)) ?_; (with_reducible refine (spec_PathClean.calls kj2 _ _ t323 t329 _ ?side1 ?side2 A8.out).mono ?_); (case side1 => repeat (first | exact (Kd.R_reads' HO325.out).2.2 | (with_reducible refine Kd.C_alloc ?_ _) | (with_reducible refine Kd.C_drewN ?_ _) | (with_reducible refine Kd.C_drew ?_))); (case side2 => exact (Kd.R_reads' HO325.out).2.1); rintro e w43 ⟨v330, rfl, ho0, hb⟩; refine ⟨_, rfl, ?_⟩; have n0_ := Aside0.mk (Kd.R_elder' (by (with_reducible repeat (first | apply Kd.R_alloc | apply Kd.R_drewN | apply Kd.R_drew)); exact HO325.out) (Kd.R_base ho0) hb); have n1_ := Aside0.mk (Kd.R_elder' (by (with_reducible repeat (first | apply Kd.R_alloc | apply Kd.R_drewN | apply Kd.R_drew)); exact HO328.out) (Kd.R_base ho0) hb); have n2_ := Aside0.mk (Kd.R_lower (Kd.R_new' (Kd.R_new' ho0 (Kd.R_lt (by (with_reducible repeat (first | apply Kd.R_alloc | apply Kd.R_drewN | apply Kd.R_drew)); exact HO325.out))) (Kd.R_lt (by (with_reducible repeat (first | apply Kd.R_alloc | apply Kd.R_drewN | apply Kd.R_drew)); exact HO328.out))) (below_size (by repeat (first | (with_reducible first | exact HB.out | apply below_alloc | apply pw_below_drewN | apply below_drew1) | exact HB.out)))); have n3_ := Aside0.mk (below_step (by repeat (first | (with_reducible first | exact HB.out | apply below_alloc | apply pw_below_drewN | apply below_drew1) | exact HB.out)) hb); clear HO325; clear HO328; clear HB; have HO325 := n0_; have HO328 := n1_; have HO331 := n2_; have HB := n3_; clear n0_ n1_ n2_ n3_; (try clear hb); (try clear hb2); (try clear hk); (try clear hi); (try clear ho0); obtain ⟨Ao44, co44, eo44⟩ := Kd.R_slice HO328.out; subst eo44; obtain ⟨Ao45, co45, eo45⟩ := Kd.R_slice HO331.out; subst eo45) | ((with_reducible refine gate_callee (f := 19) rfl ?_); refine goesL_ (some 24) rfl rfl Try.func19 (by kernel_rfl) rfl #[.slice Ao44 t326.length co44, .slice Ao45 t329.length co45] rfl (by (try simp only [List.map_toArray, List.map_cons, List.map_nil]); first | done | rfl | (simp only [List.length_drop, List.length_take]; rfl)) ?_; (with_reducible refine (laws_lpTexts.calls kj2 _ _ t326 _ _ t329 false _ ?side1 ?side2 ?side3 ?side4 A9.out).mono ?_); (case side1 => repeat (first | exact (Kd.R_reads' HO328.out).2.2 | (with_reducible refine Kd.C_alloc ?_ _) | (with_reducible refine Kd.C_drewN ?_ _) | (with_reducible refine Kd.C_drew ?_))); (case side2 => exact (Kd.R_reads' HO328.out).2.1); (case side3 => repeat (first | exact (Kd.R_reads' HO331.out).2.2 | (with_reducible refine Kd.C_alloc ?_ _) | (with_reducible refine Kd.C_drewN ?_ _) | (with_reducible refine Kd.C_drew ?_))); (case side4 => exact (Kd.R_reads' HO331.out).2.1); rintro e w' ⟨rfl, ⟨nd, rfl⟩⟩; refine ⟨_, rfl, ?_⟩))
          go_ret
          exact ⟨by first | rfl | (simp [errW_none, errW_some] <;> rfl) | (simp [*, errW_none, errW_some] <;> rfl), by repeat (first | (with_reducible first | exact HB.out | apply below_alloc | apply pw_below_drewN | apply below_drew1) | exact HB.out)⟩

/-- THE ONE PURE STATEMENT of laws_FnPathCut: yours. -/
def laws_FnPathCut.Pure : Prop := ∀ (l0 : List Int) (l1 : List Int), l0.length ≤ maxLen → l0.length * 1 ≤ 140737488351232 → (∀ x ∈ l0, (Lit.int .u8 x).wf = true) → l1.length ≤ maxLen → l1.length * 1 ≤ 140737488351232 → (∀ x ∈ l1, (Lit.int .u8 x).wf = true) → ∃ k, laws_FnPathCut.f k l0 l1 = some true
theorem laws_FnPathCut.walk (P : laws_FnPathCut.Pure) (a0 : Option Addr) (len0 cap0 : Nat) (z0 : List Int) (a1 : Option Addr) (len1 cap1 : Nat) (z1 : List Int) (w : World) (w0 : (a0 = none ∧ len0 = 0 ∧ cap0 = 0 ∧ z0 = []) ∨ ∃ x, a0 = some x ∧ len0 ≤ cap0 ∧ cap0 ≤ maxLen ∧ z0.length = cap0 ∧ (∀ i, i < z0.length → w.cell? (x.add i) = some (.int .u8 (z0.getD i 0))) ∧ ∀ n ∈ z0, (Lit.int .u8 n).wf = true) (y0 : len0 * 1 ≤ 140737488351232) (w1 : (a1 = none ∧ len1 = 0 ∧ cap1 = 0 ∧ z1 = []) ∨ ∃ x, a1 = some x ∧ len1 ≤ cap1 ∧ cap1 ≤ maxLen ∧ z1.length = cap1 ∧ (∀ i, i < z1.length → w.cell? (x.add i) = some (.int .u8 (z1.getD i 0))) ∧ ∀ n ∈ z1, (Lit.int .u8 n).wf = true) (y1 : len1 * 1 ≤ 140737488351232) :
    Calls Try.prog 4 #[.slice a0 len0 cap0, .slice a1 len1 cap1] w fun e w' => e = .returned (.bool true) ∧ Below w.heap.size w w' := by
  obtain ⟨l0, rfl, hr0, hm0, hw0, hc0⟩ := ReadsInt.ofRowC w0
  obtain ⟨l1, rfl, hr1, hm1, hw1, hc1⟩ := ReadsInt.ofRowC w1
  obtain ⟨k, h⟩ := P l0 l1 hm0 y0 hw0 hm1 y1 hw1
  refine (laws_FnPathCut.calls k _ _ l0 _ _ l1 true w (Kd.C_of_reads (d := (0 : Int)) (h1 := fun _ => rfl) hr0) hc0 (Kd.C_of_reads (d := (0 : Int)) (h1 := fun _ => rfl) hr1) hc1 h).mono ?_
  rintro e w' ⟨rfl, hd⟩
  exact ⟨rfl, hd⟩

end Go.Proofs.Ytpganphmapdkcaa.P
