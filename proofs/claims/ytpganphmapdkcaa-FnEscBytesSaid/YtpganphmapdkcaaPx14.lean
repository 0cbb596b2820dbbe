-- Written by a program of this session (patch_print.py over the kit's print; given texts in wip/given).
import Derived.Test.YtpganphmapdkcaaPx0
import Derived.Test.YtpganphmapdkcaaPx4
import Derived.Test.YtpganphmapdkcaaPx5
import Derived.Test.YtpganphmapdkcaaPx6
namespace Go.Proofs.Ytpganphmapdkcaa.P
open Go.RowKit Go.Proofs.YtpganphmapdkcaaW.PrintWords Go.Proofs.YtpganphmapdkcaaW.PrintLast Go.Proofs.YtpganphmapdkcaaW.PrintMore
attribute [local go_sem] max2_int min2_int max_two min_two max_three min_three max_four min_four   -- for this text's walks alone
set_option linter.unusedVariables false
set_option linter.unusedSimpArgs false

/-! ### laws_FnEscPlain: function 12 -/
mutual
def laws_FnEscPlain.j0 : Nat → ByteArray → Bool → ByteArray → Bool → Bool → Option (Bool)
  | 0, _, _, _, _, _ => none
  | k + 1, x4, x5, x6, x7, x37 => if x37 = true then (if (x7 == x5) = true then (some (x6.toList == x4.toList)) else (some false)) else (laws_FnEscPlain.l0 k x6 0)
def laws_FnEscPlain.l0 : Nat → ByteArray → Int → Option (Bool)
  | 0, _, _ => none
  | k + 1, x6, x8 => if x8 < (x6.size : Int) then (if 0 ≤ x8 then (if (bt x6 x8) ≥ 97 then (if (bt x6 x8) ≤ 122 then (laws_FnEscPlain.j2 k x6 x8 (bt x6 x8) true) else (if (bt x6 x8) ≥ 48 then (if (bt x6 x8) ≤ 57 then (laws_FnEscPlain.j2 k x6 x8 (bt x6 x8) true) else (if (bt x6 x8) = 46 then (laws_FnEscPlain.j2 k x6 x8 (bt x6 x8) true) else (laws_FnEscPlain.j2 k x6 x8 (bt x6 x8) ((bt x6 x8) == 45)))) else (if (bt x6 x8) = 46 then (laws_FnEscPlain.j2 k x6 x8 (bt x6 x8) true) else (laws_FnEscPlain.j2 k x6 x8 (bt x6 x8) ((bt x6 x8) == 45))))) else (if (bt x6 x8) ≥ 48 then (if (bt x6 x8) ≤ 57 then (laws_FnEscPlain.j2 k x6 x8 (bt x6 x8) true) else (if (bt x6 x8) = 46 then (laws_FnEscPlain.j2 k x6 x8 (bt x6 x8) true) else (laws_FnEscPlain.j2 k x6 x8 (bt x6 x8) ((bt x6 x8) == 45)))) else (if (bt x6 x8) = 46 then (laws_FnEscPlain.j2 k x6 x8 (bt x6 x8) true) else (laws_FnEscPlain.j2 k x6 x8 (bt x6 x8) ((bt x6 x8) == 45))))) else (none)) else (some true)
def laws_FnEscPlain.j2 : Nat → ByteArray → Int → Int → Bool → Option (Bool)
  | 0, _, _, _, _ => none
  | k + 1, x6, x8, x9, x10 => if x9 = 37 then (laws_FnEscPlain.j3 k x6 x8 x10 (decide ((wrap64 (x8 + 2)) < (x6.size : Int)))) else (laws_FnEscPlain.j3 k x6 x8 x10 false)
def laws_FnEscPlain.j3 : Nat → ByteArray → Int → Bool → Bool → Option (Bool)
  | 0, _, _, _, _ => none
  | k + 1, x6, x8, x10, x85 => if x85 = true then (laws_FnEscPlain.l0 k x6 (wrap64 ((wrap64 (x8 + 2)) + 1))) else (if x10 = true then (laws_FnEscPlain.l0 k x6 (wrap64 (x8 + 1))) else (some false))
end
def laws_FnEscPlain.f (k : Nat) (l0 : List Int) : Option (Bool) := if (l0.length : Int) > 1048576 then (some true) else ((spec_DrawEscNorm.f k l0).bind fun t191 => ((spec_EscNorm.f k t191).bind fun bt192 => ((impl_EscNorm.f k t191).bind fun bt194 => (if (bt194.2 != bt192.2) = true then (laws_FnEscPlain.j0 k bt192.1 bt192.2 bt194.1 bt194.2 true) else (if bt194.1.toList = bt192.1.toList then (laws_FnEscPlain.j0 k bt192.1 bt192.2 bt194.1 bt194.2 (!bt194.2)) else (laws_FnEscPlain.j0 k bt192.1 bt192.2 bt194.1 bt194.2 true))))))
theorem laws_FnEscPlain.mono_l : ∀ k, (∀ y0 y1 y2 y3 y4, LeO (laws_FnEscPlain.j0 k y0 y1 y2 y3 y4) (laws_FnEscPlain.j0 (k + 1) y0 y1 y2 y3 y4)) ∧ (∀ y0 y1, LeO (laws_FnEscPlain.l0 k y0 y1) (laws_FnEscPlain.l0 (k + 1) y0 y1)) ∧ (∀ y0 y1 y2 y3, LeO (laws_FnEscPlain.j2 k y0 y1 y2 y3) (laws_FnEscPlain.j2 (k + 1) y0 y1 y2 y3)) ∧ (∀ y0 y1 y2 y3, LeO (laws_FnEscPlain.j3 k y0 y1 y2 y3) (laws_FnEscPlain.j3 (k + 1) y0 y1 y2 y3))
  | 0 => ⟨fun _ _ _ _ _ r h => by simp [laws_FnEscPlain.j0] at h, fun _ _ r h => by simp [laws_FnEscPlain.l0] at h, fun _ _ _ _ r h => by simp [laws_FnEscPlain.j2] at h, fun _ _ _ _ r h => by simp [laws_FnEscPlain.j3] at h⟩
  | k + 1 => by
    obtain ⟨ih0, ih1, ih2, ih3⟩ := laws_FnEscPlain.mono_l k
    refine ⟨?_, ?_, ?_, ?_⟩
    · intro y0 y1 y2 y3 y4
      unfold laws_FnEscPlain.j0
      repeat' first
      | (with_reducible exact ih0 _ _ _ _ _)
      | (with_reducible exact ih1 _ _)
      | (with_reducible exact ih2 _ _ _ _)
      | (with_reducible exact ih3 _ _ _ _)
      | (with_reducible exact impl_EscNorm.mono _ _)
      | (with_reducible exact spec_DrawEscNorm.mono _ _)
      | (with_reducible exact spec_EscNorm.mono _ _)
      | (with_reducible exact LeO.refl _)
      | (with_reducible exact LeO.none _)
      | (with_reducible refine LeO.ite ?_ ?_)
      | (with_reducible refine LeO.bind ?_ (fun _ => ?_))
      | exact ih0 _ _ _ _ _
      | exact ih1 _ _
      | exact ih2 _ _ _ _
      | exact ih3 _ _ _ _
      | exact impl_EscNorm.mono _ _
      | exact spec_DrawEscNorm.mono _ _
      | exact spec_EscNorm.mono _ _
      | exact LeO.none _
      | refine LeO.ite ?_ ?_
      | refine LeO.bind ?_ (fun _ => ?_)
    · intro y0 y1
      unfold laws_FnEscPlain.l0
      repeat' first
      | (with_reducible exact ih0 _ _ _ _ _)
      | (with_reducible exact ih1 _ _)
      | (with_reducible exact ih2 _ _ _ _)
      | (with_reducible exact ih3 _ _ _ _)
      | (with_reducible exact impl_EscNorm.mono _ _)
      | (with_reducible exact spec_DrawEscNorm.mono _ _)
      | (with_reducible exact spec_EscNorm.mono _ _)
      | (with_reducible exact LeO.refl _)
      | (with_reducible exact LeO.none _)
      | (with_reducible refine LeO.ite ?_ ?_)
      | (with_reducible refine LeO.bind ?_ (fun _ => ?_))
      | exact ih0 _ _ _ _ _
      | exact ih1 _ _
      | exact ih2 _ _ _ _
      | exact ih3 _ _ _ _
      | exact impl_EscNorm.mono _ _
      | exact spec_DrawEscNorm.mono _ _
      | exact spec_EscNorm.mono _ _
      | exact LeO.none _
      | refine LeO.ite ?_ ?_
      | refine LeO.bind ?_ (fun _ => ?_)
    · intro y0 y1 y2 y3
      unfold laws_FnEscPlain.j2
      repeat' first
      | (with_reducible exact ih0 _ _ _ _ _)
      | (with_reducible exact ih1 _ _)
      | (with_reducible exact ih2 _ _ _ _)
      | (with_reducible exact ih3 _ _ _ _)
      | (with_reducible exact impl_EscNorm.mono _ _)
      | (with_reducible exact spec_DrawEscNorm.mono _ _)
      | (with_reducible exact spec_EscNorm.mono _ _)
      | (with_reducible exact LeO.refl _)
      | (with_reducible exact LeO.none _)
      | (with_reducible refine LeO.ite ?_ ?_)
      | (with_reducible refine LeO.bind ?_ (fun _ => ?_))
      | exact ih0 _ _ _ _ _
      | exact ih1 _ _
      | exact ih2 _ _ _ _
      | exact ih3 _ _ _ _
      | exact impl_EscNorm.mono _ _
      | exact spec_DrawEscNorm.mono _ _
      | exact spec_EscNorm.mono _ _
      | exact LeO.none _
      | refine LeO.ite ?_ ?_
      | refine LeO.bind ?_ (fun _ => ?_)
    · intro y0 y1 y2 y3
      unfold laws_FnEscPlain.j3
      repeat' first
      | (with_reducible exact ih0 _ _ _ _ _)
      | (with_reducible exact ih1 _ _)
      | (with_reducible exact ih2 _ _ _ _)
      | (with_reducible exact ih3 _ _ _ _)
      | (with_reducible exact impl_EscNorm.mono _ _)
      | (with_reducible exact spec_DrawEscNorm.mono _ _)
      | (with_reducible exact spec_EscNorm.mono _ _)
      | (with_reducible exact LeO.refl _)
      | (with_reducible exact LeO.none _)
      | (with_reducible refine LeO.ite ?_ ?_)
      | (with_reducible refine LeO.bind ?_ (fun _ => ?_))
      | exact ih0 _ _ _ _ _
      | exact ih1 _ _
      | exact ih2 _ _ _ _
      | exact ih3 _ _ _ _
      | exact impl_EscNorm.mono _ _
      | exact spec_DrawEscNorm.mono _ _
      | exact spec_EscNorm.mono _ _
      | exact LeO.none _
      | refine LeO.ite ?_ ?_
      | refine LeO.bind ?_ (fun _ => ?_)
theorem laws_FnEscPlain.mono : ∀ a0 k, LeO (laws_FnEscPlain.f k a0) (laws_FnEscPlain.f (k + 1) a0) := by
  intro a0 k
  obtain ⟨ih0, ih1, ih2, ih3⟩ := laws_FnEscPlain.mono_l k
  unfold laws_FnEscPlain.f
  repeat' first
      | (with_reducible exact ih0 _ _ _ _ _)
      | (with_reducible exact ih1 _ _)
      | (with_reducible exact ih2 _ _ _ _)
      | (with_reducible exact ih3 _ _ _ _)
      | (with_reducible exact impl_EscNorm.mono _ _)
      | (with_reducible exact spec_DrawEscNorm.mono _ _)
      | (with_reducible exact spec_EscNorm.mono _ _)
      | (with_reducible exact LeO.refl _)
      | (with_reducible exact LeO.none _)
      | (with_reducible refine LeO.ite ?_ ?_)
      | (with_reducible refine LeO.bind ?_ (fun _ => ?_))
      | exact ih0 _ _ _ _ _
      | exact ih1 _ _
      | exact ih2 _ _ _ _
      | exact ih3 _ _ _ _
      | exact impl_EscNorm.mono _ _
      | exact spec_DrawEscNorm.mono _ _
      | exact spec_EscNorm.mono _ _
      | exact LeO.none _
      | refine LeO.ite ?_ ?_
      | refine LeO.bind ?_ (fun _ => ?_)
set_option maxHeartbeats 8000000 in
set_option maxRecDepth 100000 in
theorem laws_FnEscPlain.calls (k : Nat) (A0 : Option Addr) (c0 : Nat) (l0 : List Int) (r : Bool) (w : World) (hr0 : Kd.C (Kd.int .u8) w A0 l0.length l0) (hc0 : l0.length ≤ c0) (h : laws_FnEscPlain.f k l0 = some r) :
    Calls Try.prog 12 #[.slice A0 l0.length c0] w fun e w' => e = .returned (.bool r) ∧ Below w.heap.size w w' := by
  have HR0 := Aside0.mk hr0
  have HC0 := Aside0.mk hc0
  clear hr0 hc0
  have HB := Aside0.mk (Below.refl w.heap.size w)
  have H : (if (l0.length : Int) > 1048576 then (some true) else ((spec_DrawEscNorm.f k l0).bind fun t191 => ((spec_EscNorm.f k t191).bind fun bt192 => ((impl_EscNorm.f k t191).bind fun bt194 => (if (bt194.2 != bt192.2) = true then (laws_FnEscPlain.j0 k bt192.1 bt192.2 bt194.1 bt194.2 true) else (if bt194.1.toList = bt192.1.toList then (laws_FnEscPlain.j0 k bt192.1 bt192.2 bt194.1 bt194.2 (!bt194.2)) else (laws_FnEscPlain.j0 k bt192.1 bt192.2 bt194.1 bt194.2 true))))))) = some r := h
  clear h
  by_cases c2 : (l0.length : Int) > 1048576
  · rw [if_pos c2] at H
    have c2b0 : decide (1048576 < (l0.length : Int)) = true := decide_eq_true c2
    have c2b1 : decide (1048576 < l0.length) = true := decide_eq_true (by omega)
    clear c2
    obtain rfl := Option.some.inj H
    go_enter Try.func12, Try.ntmps12
    go_wp2
    go_ret
    exact ⟨by first | rfl | (simp [errW_none, errW_some] <;> rfl) | (simp [*, errW_none, errW_some] <;> rfl), by repeat (first | (with_reducible first | exact HB.out | apply below_alloc | apply pw_below_drewN | apply below_drew1) | exact HB.out)⟩
  · rw [if_neg c2] at H
    have c2b0 : decide (1048576 < (l0.length : Int)) = false := decide_eq_false c2
    have c2b1 : decide (1048576 < l0.length) = false := decide_eq_false (by omega)
    clear c2
    replace H := Option.bind_eq_some_iff.mp H
    obtain ⟨t191, A30, H⟩ := H
    replace H : ((spec_EscNorm.f k t191).bind fun bt192 => ((impl_EscNorm.f k t191).bind fun bt194 => (if (bt194.2 != bt192.2) = true then (laws_FnEscPlain.j0 k bt192.1 bt192.2 bt194.1 bt194.2 true) else (if bt194.1.toList = bt192.1.toList then (laws_FnEscPlain.j0 k bt192.1 bt192.2 bt194.1 bt194.2 (!bt194.2)) else (laws_FnEscPlain.j0 k bt192.1 bt192.2 bt194.1 bt194.2 true))))) = some r := H
    have A3 := Aside0.mk A30
    clear A30
    replace H := Option.bind_eq_some_iff.mp H
    obtain ⟨⟨t192, t193⟩, A40, H⟩ := H
    replace H : ((impl_EscNorm.f k t191).bind fun bt194 => (if (bt194.2 != t193) = true then (laws_FnEscPlain.j0 k t192 t193 bt194.1 bt194.2 true) else (if bt194.1.toList = t192.toList then (laws_FnEscPlain.j0 k t192 t193 bt194.1 bt194.2 (!bt194.2)) else (laws_FnEscPlain.j0 k t192 t193 bt194.1 bt194.2 true)))) = some r := H
    have A4 := Aside0.mk A40
    clear A40
    replace H := Option.bind_eq_some_iff.mp H
    obtain ⟨⟨t194, t195⟩, A50, H⟩ := H
    replace H : (if (t195 != t193) = true then (laws_FnEscPlain.j0 k t192 t193 t194 t195 true) else (if t194.toList = t192.toList then (laws_FnEscPlain.j0 k t192 t193 t194 t195 (!t195)) else (laws_FnEscPlain.j0 k t192 t193 t194 t195 true))) = some r := H
    have A5 := Aside0.mk A50
    clear A50
    have HC6 := Aside0.mk H
    clear H
    go_enter Try.func12, Try.ntmps12
    go_upto_region 6 with (first | ((with_reducible refine gate_callee (f := 31) rfl ?_); refine goesL_ (some 15) rfl rfl Try.func31 (by kernel_rfl) rfl #[.slice A0 l0.length c0] rfl (by (try simp only [List.map_toArray, List.map_cons, List.map_nil]); first | done | rfl | (simp only [List.length_drop, List.length_take]; rfl)) ?_; (with_reducible refine (spec_DrawEscNorm.calls k _ _ l0 t191 _ ?side1 ?side2 A3.out).mono ?_); (case side1 => repeat (first | exact HR0.out | (with_reducible refine Kd.C_alloc ?_ _) | (with_reducible refine Kd.C_drewN ?_ _) | (with_reducible refine Kd.C_drew ?_))); (case side2 => exact HC0.out); rintro e w7 ⟨rfl, hb⟩; refine ⟨_, rfl, ?_⟩; have n0_ := Aside0.mk (below_step (by repeat (first | (with_reducible first | exact HB.out | apply below_alloc | apply pw_below_drewN | apply below_drew1) | exact HB.out)) hb); clear HB; have HB := n0_; clear n0_; (try clear hb); (try clear hb2); (try clear hk); (try clear hi)) | ((with_reducible refine gate_callee (f := 22) rfl ?_); refine goesL_ (some 18) rfl rfl Try.func22 (by kernel_rfl) rfl #[.string t191] rfl (by (try simp only [List.map_toArray, List.map_cons, List.map_nil]); first | done | rfl | (simp only [List.length_drop, List.length_take]; rfl)) ?_; (with_reducible refine (spec_EscNorm.calls k t191 t192 t193 _ A4.out).mono ?_); rintro e w8 ⟨rfl, hb⟩; refine ⟨_, rfl, ?_⟩; have n0_ := Aside0.mk (below_step (by repeat (first | (with_reducible first | exact HB.out | apply below_alloc | apply pw_below_drewN | apply below_drew1) | exact HB.out)) hb); clear HB; have HB := n0_; clear n0_; (try clear hb); (try clear hb2); (try clear hk); (try clear hi)) | ((with_reducible refine gate_callee (f := 23) rfl ?_); refine goesL_ (some 23) rfl rfl Try.func23 (by kernel_rfl) rfl #[.string t191] rfl (by (try simp only [List.map_toArray, List.map_cons, List.map_nil]); first | done | rfl | (simp only [List.length_drop, List.length_take]; rfl)) ?_; (with_reducible refine (impl_EscNorm.calls k t191 t194 t195 _ A5.out).mono ?_); rintro e w9 ⟨rfl, hb⟩; refine ⟨_, rfl, ?_⟩; have n0_ := Aside0.mk (below_step (by repeat (first | (with_reducible first | exact HB.out | apply below_alloc | apply pw_below_drewN | apply below_drew1) | exact HB.out)) hb); clear HB; have HB := n0_; clear n0_; (try clear hb); (try clear hb2); (try clear hk); (try clear hi)))
    (try simp only [Act.put, List.setIfInBounds_toArray, List.set_cons_zero, List.set_cons_succ])
    go_cut [37] (fun v37 wc => ∃ (kq : Nat) (x37_5 : Bool), v37 = .bool x37_5 ∧ Aside0 (laws_FnEscPlain.j0 kq t192 t193 t194 t195 x37_5 = some r) ∧ Aside0 (kq ≤ k) ∧ Aside0 (Below w.heap.size w wc))
    case first =>
      have H := HC6.out
      clear HC6
      by_cases c10 : (t195 != t193) = true
      · rw [if_pos c10] at H
        have c10b0 : (t195 != t193) = true := c10
        (try (have c10b1 : decide (t195 = t193) = false := by simpa using c10))
        (try (have c10b2 : (t195 == t193) = false := by simpa using c10))
        (try (have c10b3 : ¬ (t195 = t193) := by simpa using c10))
        clear c10
        (first | rw [c10b0] | (simp only [i64_w, i32_w]; rw [c10b0]) | skip)
        have H' := Aside0.mk H
        clear H
        go_wp2
        go_meet
        case rel => exact ⟨_, (true), (by first | rfl | (simp; done) | (simp only [i64_w, i32_w]; done) | (simp only [i64_w, i32_w]; rfl) | (simp [*]; done)), H', ⟨by first | omega | exact Nat.le_refl _⟩, ⟨by repeat (first | (with_reducible first | exact HB.out | apply below_alloc | apply pw_below_drewN | apply below_drew1) | exact HB.out)⟩⟩
      · rw [if_neg c10] at H
        have c10b0 : (t195 != t193) = false := by simpa using c10
        (try (have c10b1 : decide (t195 = t193) = true := by simpa using c10))
        (try (have c10b2 : (t195 == t193) = true := by simpa using c10))
        clear c10
        (first | rw [c10b0] | (simp only [i64_w, i32_w]; rw [c10b0]) | skip)
        by_cases c11 : t194.toList = t192.toList
        · rw [if_pos c11] at H
          have c11b0 : (t194.toList == t192.toList) = true := beq_iff_eq.mpr c11
          have c11b1 : (t194.toList != t192.toList) = false := bne_eq_false_iff_eq.mpr c11
          clear c11
          have H' := Aside0.mk H
          clear H
          go_wp2
          go_meet
          case rel => exact ⟨_, (!t195), (by first | rfl | (simp; done) | (simp only [i64_w, i32_w]; done) | (simp only [i64_w, i32_w]; rfl) | (simp [*]; done)), H', ⟨by first | omega | exact Nat.le_refl _⟩, ⟨by repeat (first | (with_reducible first | exact HB.out | apply below_alloc | apply pw_below_drewN | apply below_drew1) | exact HB.out)⟩⟩
        · rw [if_neg c11] at H
          have c11b0 : (t194.toList == t192.toList) = false := beq_eq_false_iff_ne.mpr c11
          have c11b1 : (t194.toList != t192.toList) = true := bne_iff_ne.mpr c11
          have H' := Aside0.mk H
          clear H
          go_wp2
          go_meet
          case rel => exact ⟨_, (true), (by first | rfl | (simp; done) | (simp only [i64_w, i32_w]; done) | (simp only [i64_w, i32_w]; rfl) | (simp [*]; done)), H', ⟨by first | omega | exact Nat.le_refl _⟩, ⟨by repeat (first | (with_reducible first | exact HB.out | apply below_alloc | apply pw_below_drewN | apply below_drew1) | exact HB.out)⟩⟩
    case rest =>
      clear HC6
      try clear c1
      try clear c2
      try clear c2b0
      try clear c2b1
      try clear p2
      try clear c3
      try clear c10
      try clear c10b0
      try clear c10b1
      try clear c10b2
      try clear c11
      try clear c11b0
      try clear c11b1
      obtain ⟨kq, x37_5, rfl, HA, HJ5, HB⟩ := hcut
      cases kq with
      | zero => exact absurd HA.out (by simp [laws_FnEscPlain.j0])
      | succ kj5 =>
        have H := HA.out
        clear HA
        simp only [laws_FnEscPlain.j0] at H
        by_cases c12 : x37_5 = true
        · subst c12
          have H1 : (if (t195 == t193) = true then (some (t194.toList == t192.toList)) else (some false)) = some r := by rw [if_pos rfl] at H; exact H
          clear H
          have H := H1
          clear H1
          by_cases c13 : (t195 == t193) = true
          · rw [if_pos c13] at H
            have c13b0 : (t195 == t193) = true := c13
            (try (have c13b1 : decide (t195 = t193) = true := by simpa using c13))
            (try (have c13b2 : (t195 == t193) = true := by simpa using c13))
            clear c13
            obtain rfl := Option.some.inj H
            go_wp2
            go_ret
            exact ⟨by first | rfl | (simp [errW_none, errW_some] <;> rfl) | (simp [*, errW_none, errW_some] <;> rfl), by repeat (first | (with_reducible first | exact HB.out | apply below_alloc | apply pw_below_drewN | apply below_drew1) | exact HB.out)⟩
          · rw [if_neg c13] at H
            have c13b0 : (t195 == t193) = false := by simpa using c13
            (try (have c13b1 : decide (t195 = t193) = false := by simpa using c13))
            (try (have c13b2 : (t195 == t193) = false := by simpa using c13))
            (try (have c13b3 : ¬ (t195 = t193) := by simpa using c13))
            clear c13
            obtain rfl := Option.some.inj H
            go_wp2
            go_ret
            exact ⟨by first | rfl | (simp [errW_none, errW_some] <;> rfl) | (simp [*, errW_none, errW_some] <;> rfl), by repeat (first | (with_reducible first | exact HB.out | apply below_alloc | apply pw_below_drewN | apply below_drew1) | exact HB.out)⟩
        · replace c12 := Bool.eq_false_iff.mpr c12
          subst c12
          have H1 : (laws_FnEscPlain.l0 kj5 t194 0) = some r := by rw [if_neg (show ¬ (false = true) by decide)] at H; exact H
          clear H
          have H := H1
          clear H1
          have H' := Aside0.mk H
          clear H
          go_wp2
          go_loopg [8] kj5 (fun kq v8 w' => ∃ (x8_2 : Int), v8 = .int .i64 x8_2 ∧ Aside0 (laws_FnEscPlain.l0 kq t194 x8_2 = some r) ∧ Aside0 (kq ≤ kj5) ∧ Aside0 (Below w.heap.size w w'))
          case atStart => exact ⟨(0), (by first | rfl | (simp; done) | (simp only [i64_w, i32_w]; done) | (simp only [i64_w, i32_w]; rfl) | (simp [*]; done)), H', ⟨Nat.le_refl _⟩, ⟨by repeat (first | (with_reducible first | exact HB.out | apply below_alloc | apply pw_below_drewN | apply below_drew1) | exact HB.out)⟩⟩
          case round =>
            clear H'
            try clear c1
            try clear c2
            try clear c2b0
            try clear c2b1
            try clear p2
            try clear c3
            try clear c10
            try clear c10b0
            try clear c10b1
            try clear c10b2
            try clear c11
            try clear c11b0
            try clear c11b1
            try clear c12
            try clear c13
            try clear c13b0
            try clear c13b1
            try clear c13b2
            try clear p2
            obtain ⟨x8_2, rfl, HA, HK2, HB⟩ := hrel
            cases gk with
            | zero => exact absurd HA.out (by simp [laws_FnEscPlain.l0])
            | succ k2 =>
              have H := HA.out
              clear HA
              simp only [laws_FnEscPlain.l0] at H
              by_cases c14 : x8_2 < (t194.size : Int)
              · rw [if_pos c14] at H
                have c14b0 : decide (x8_2 < (t194.size : Int)) = true := decide_eq_true c14
                clear c14
                by_cases c15 : 0 ≤ x8_2
                · rw [if_pos c15] at H
                  have c15b0 : decide (0 ≤ x8_2) = true := decide_eq_true c15
                  clear c15
                  have HC17 := Aside0.mk H
                  clear H
                  have p16 : 0 ≤ (x8_2 : Int) := of_decide_eq_true (by first | (with_reducible assumption) | assumption)
                  have q16 : x8_2 < (t194.size : Int) := of_decide_eq_true (by first | (with_reducible assumption) | assumption)
                  have hx16 := bt_at t194 x8_2
                  replace p16 := eq_true p16
                  replace q16 := eq_true q16
                  go_upto_region 12 with (fail)
                  go_cut [10] (fun v10 wc => ∃ (kq : Nat) (x10_16 : Bool), v10 = .bool x10_16 ∧ Aside0 (laws_FnEscPlain.j2 kq t194 x8_2 (bt t194 x8_2) x10_16 = some r) ∧ Aside0 (kq ≤ k2) ∧ Aside0 (Below w.heap.size w wc))
                  case first =>
                    have H := HC17.out
                    clear HC17
                    by_cases c18 : (bt t194 x8_2) ≥ 97
                    · rw [if_pos c18] at H
                      have c18b0 : decide (97 ≤ (bt t194 x8_2)) = true := decide_eq_true c18
                      clear c18
                      (first | rw [c18b0] | (simp only [i64_w, i32_w]; rw [c18b0]) | skip)
                      by_cases c19 : (bt t194 x8_2) ≤ 122
                      · rw [if_pos c19] at H
                        have c19b0 : decide ((bt t194 x8_2) ≤ 122) = true := decide_eq_true c19
                        clear c19
                        have H' := Aside0.mk H
                        clear H
                        go_wp2
                        go_meet
                        case rel => exact ⟨_, (true), (by first | rfl | (simp; done) | (simp only [i64_w, i32_w]; done) | (simp only [i64_w, i32_w]; rfl) | (simp [*]; done)), H', ⟨by have := HJ5.out; have := HK2.out; first | omega | exact Nat.le_refl _⟩, ⟨by repeat (first | (with_reducible first | exact HB.out | apply below_alloc | apply pw_below_drewN | apply below_drew1) | exact HB.out)⟩⟩
                      · rw [if_neg c19] at H
                        have c19b0 : decide ((bt t194 x8_2) ≤ 122) = false := decide_eq_false c19
                        clear c19
                        by_cases c20 : (bt t194 x8_2) ≥ 48
                        · rw [if_pos c20] at H
                          have c20b0 : decide (48 ≤ (bt t194 x8_2)) = true := decide_eq_true c20
                          clear c20
                          by_cases c21 : (bt t194 x8_2) ≤ 57
                          · rw [if_pos c21] at H
                            have c21b0 : decide ((bt t194 x8_2) ≤ 57) = true := decide_eq_true c21
                            clear c21
                            have H' := Aside0.mk H
                            clear H
                            go_wp2
                            go_meet
                            case rel => exact ⟨_, (true), (by first | rfl | (simp; done) | (simp only [i64_w, i32_w]; done) | (simp only [i64_w, i32_w]; rfl) | (simp [*]; done)), H', ⟨by have := HJ5.out; have := HK2.out; first | omega | exact Nat.le_refl _⟩, ⟨by repeat (first | (with_reducible first | exact HB.out | apply below_alloc | apply pw_below_drewN | apply below_drew1) | exact HB.out)⟩⟩
                          · rw [if_neg c21] at H
                            have c21b0 : decide ((bt t194 x8_2) ≤ 57) = false := decide_eq_false c21
                            clear c21
                            by_cases c22 : (bt t194 x8_2) = 46
                            · rw [if_pos c22] at H
                              have c22b0 : ((bt t194 x8_2) == 46) = true := beq_iff_eq.mpr c22
                              have c22b1 : ((bt t194 x8_2) != 46) = false := bne_eq_false_iff_eq.mpr c22
                              clear c22
                              have H' := Aside0.mk H
                              clear H
                              go_wp2
                              go_meet
                              case rel => exact ⟨_, (true), (by first | rfl | (simp; done) | (simp only [i64_w, i32_w]; done) | (simp only [i64_w, i32_w]; rfl) | (simp [*]; done)), H', ⟨by have := HJ5.out; have := HK2.out; first | omega | exact Nat.le_refl _⟩, ⟨by repeat (first | (with_reducible first | exact HB.out | apply below_alloc | apply pw_below_drewN | apply below_drew1) | exact HB.out)⟩⟩
                            · rw [if_neg c22] at H
                              have c22b0 : ((bt t194 x8_2) == 46) = false := beq_eq_false_iff_ne.mpr c22
                              have c22b1 : ((bt t194 x8_2) != 46) = true := bne_iff_ne.mpr c22
                              have H' := Aside0.mk H
                              clear H
                              go_wp2
                              go_meet
                              case rel => exact ⟨_, (((bt t194 x8_2) == 45)), (by first | rfl | (simp; done) | (simp only [i64_w, i32_w]; done) | (simp only [i64_w, i32_w]; rfl) | (simp [*]; done)), H', ⟨by have := HJ5.out; have := HK2.out; first | omega | exact Nat.le_refl _⟩, ⟨by repeat (first | (with_reducible first | exact HB.out | apply below_alloc | apply pw_below_drewN | apply below_drew1) | exact HB.out)⟩⟩
                        · rw [if_neg c20] at H
                          have c20b0 : decide (48 ≤ (bt t194 x8_2)) = false := decide_eq_false c20
                          clear c20
                          by_cases c23 : (bt t194 x8_2) = 46
                          · rw [if_pos c23] at H
                            have c23b0 : ((bt t194 x8_2) == 46) = true := beq_iff_eq.mpr c23
                            have c23b1 : ((bt t194 x8_2) != 46) = false := bne_eq_false_iff_eq.mpr c23
                            clear c23
                            have H' := Aside0.mk H
                            clear H
                            go_wp2
                            go_meet
                            case rel => exact ⟨_, (true), (by first | rfl | (simp; done) | (simp only [i64_w, i32_w]; done) | (simp only [i64_w, i32_w]; rfl) | (simp [*]; done)), H', ⟨by have := HJ5.out; have := HK2.out; first | omega | exact Nat.le_refl _⟩, ⟨by repeat (first | (with_reducible first | exact HB.out | apply below_alloc | apply pw_below_drewN | apply below_drew1) | exact HB.out)⟩⟩
                          · rw [if_neg c23] at H
                            have c23b0 : ((bt t194 x8_2) == 46) = false := beq_eq_false_iff_ne.mpr c23
                            have c23b1 : ((bt t194 x8_2) != 46) = true := bne_iff_ne.mpr c23
                            have H' := Aside0.mk H
                            clear H
                            go_wp2
                            go_meet
                            case rel => exact ⟨_, (((bt t194 x8_2) == 45)), (by first | rfl | (simp; done) | (simp only [i64_w, i32_w]; done) | (simp only [i64_w, i32_w]; rfl) | (simp [*]; done)), H', ⟨by have := HJ5.out; have := HK2.out; first | omega | exact Nat.le_refl _⟩, ⟨by repeat (first | (with_reducible first | exact HB.out | apply below_alloc | apply pw_below_drewN | apply below_drew1) | exact HB.out)⟩⟩
                    · rw [if_neg c18] at H
                      have c18b0 : decide (97 ≤ (bt t194 x8_2)) = false := decide_eq_false c18
                      clear c18
                      (first | rw [c18b0] | (simp only [i64_w, i32_w]; rw [c18b0]) | skip)
                      by_cases c24 : (bt t194 x8_2) ≥ 48
                      · rw [if_pos c24] at H
                        have c24b0 : decide (48 ≤ (bt t194 x8_2)) = true := decide_eq_true c24
                        clear c24
                        by_cases c25 : (bt t194 x8_2) ≤ 57
                        · rw [if_pos c25] at H
                          have c25b0 : decide ((bt t194 x8_2) ≤ 57) = true := decide_eq_true c25
                          clear c25
                          have H' := Aside0.mk H
                          clear H
                          go_wp2
                          go_meet
                          case rel => exact ⟨_, (true), (by first | rfl | (simp; done) | (simp only [i64_w, i32_w]; done) | (simp only [i64_w, i32_w]; rfl) | (simp [*]; done)), H', ⟨by have := HJ5.out; have := HK2.out; first | omega | exact Nat.le_refl _⟩, ⟨by repeat (first | (with_reducible first | exact HB.out | apply below_alloc | apply pw_below_drewN | apply below_drew1) | exact HB.out)⟩⟩
                        · rw [if_neg c25] at H
                          have c25b0 : decide ((bt t194 x8_2) ≤ 57) = false := decide_eq_false c25
                          clear c25
                          by_cases c26 : (bt t194 x8_2) = 46
                          · rw [if_pos c26] at H
                            have c26b0 : ((bt t194 x8_2) == 46) = true := beq_iff_eq.mpr c26
                            have c26b1 : ((bt t194 x8_2) != 46) = false := bne_eq_false_iff_eq.mpr c26
                            clear c26
                            have H' := Aside0.mk H
                            clear H
                            go_wp2
                            go_meet
                            case rel => exact ⟨_, (true), (by first | rfl | (simp; done) | (simp only [i64_w, i32_w]; done) | (simp only [i64_w, i32_w]; rfl) | (simp [*]; done)), H', ⟨by have := HJ5.out; have := HK2.out; first | omega | exact Nat.le_refl _⟩, ⟨by repeat (first | (with_reducible first | exact HB.out | apply below_alloc | apply pw_below_drewN | apply below_drew1) | exact HB.out)⟩⟩
                          · rw [if_neg c26] at H
                            have c26b0 : ((bt t194 x8_2) == 46) = false := beq_eq_false_iff_ne.mpr c26
                            have c26b1 : ((bt t194 x8_2) != 46) = true := bne_iff_ne.mpr c26
                            have H' := Aside0.mk H
                            clear H
                            go_wp2
                            go_meet
                            case rel => exact ⟨_, (((bt t194 x8_2) == 45)), (by first | rfl | (simp; done) | (simp only [i64_w, i32_w]; done) | (simp only [i64_w, i32_w]; rfl) | (simp [*]; done)), H', ⟨by have := HJ5.out; have := HK2.out; first | omega | exact Nat.le_refl _⟩, ⟨by repeat (first | (with_reducible first | exact HB.out | apply below_alloc | apply pw_below_drewN | apply below_drew1) | exact HB.out)⟩⟩
                      · rw [if_neg c24] at H
                        have c24b0 : decide (48 ≤ (bt t194 x8_2)) = false := decide_eq_false c24
                        clear c24
                        by_cases c27 : (bt t194 x8_2) = 46
                        · rw [if_pos c27] at H
                          have c27b0 : ((bt t194 x8_2) == 46) = true := beq_iff_eq.mpr c27
                          have c27b1 : ((bt t194 x8_2) != 46) = false := bne_eq_false_iff_eq.mpr c27
                          clear c27
                          have H' := Aside0.mk H
                          clear H
                          go_wp2
                          go_meet
                          case rel => exact ⟨_, (true), (by first | rfl | (simp; done) | (simp only [i64_w, i32_w]; done) | (simp only [i64_w, i32_w]; rfl) | (simp [*]; done)), H', ⟨by have := HJ5.out; have := HK2.out; first | omega | exact Nat.le_refl _⟩, ⟨by repeat (first | (with_reducible first | exact HB.out | apply below_alloc | apply pw_below_drewN | apply below_drew1) | exact HB.out)⟩⟩
                        · rw [if_neg c27] at H
                          have c27b0 : ((bt t194 x8_2) == 46) = false := beq_eq_false_iff_ne.mpr c27
                          have c27b1 : ((bt t194 x8_2) != 46) = true := bne_iff_ne.mpr c27
                          have H' := Aside0.mk H
                          clear H
                          go_wp2
                          go_meet
                          case rel => exact ⟨_, (((bt t194 x8_2) == 45)), (by first | rfl | (simp; done) | (simp only [i64_w, i32_w]; done) | (simp only [i64_w, i32_w]; rfl) | (simp [*]; done)), H', ⟨by have := HJ5.out; have := HK2.out; first | omega | exact Nat.le_refl _⟩, ⟨by repeat (first | (with_reducible first | exact HB.out | apply below_alloc | apply pw_below_drewN | apply below_drew1) | exact HB.out)⟩⟩
                  case rest =>
                    clear HC17
                    try clear c1
                    try clear p1
                    try clear q1
                    try clear hx1
                    try clear c2
                    try clear c2b0
                    try clear c2b1
                    try clear p2
                    try clear c3
                    try clear c10
                    try clear c10b0
                    try clear c10b1
                    try clear c10b2
                    try clear c11
                    try clear c11b0
                    try clear c11b1
                    try clear c12
                    try clear c13
                    try clear c13b0
                    try clear c13b1
                    try clear c13b2
                    try clear c14
                    try clear c14b0
                    try clear c15
                    try clear c15b0
                    try clear p16
                    try clear q16
                    try clear hx16
                    try clear c18
                    try clear c18b0
                    try clear c19
                    try clear c19b0
                    try clear c20
                    try clear c20b0
                    try clear c21
                    try clear c21b0
                    try clear c22
                    try clear c22b0
                    try clear c22b1
                    try clear c23
                    try clear c23b0
                    try clear c23b1
                    try clear c24
                    try clear c24b0
                    try clear c25
                    try clear c25b0
                    try clear c26
                    try clear c26b0
                    try clear c26b1
                    try clear c27
                    try clear c27b0
                    try clear c27b1
                    try clear p16
                    try clear p2
                    try clear q16
                    obtain ⟨kq, x10_16, rfl, HA, HJ16, HB⟩ := hcut
                    cases kq with
                    | zero => exact absurd HA.out (by simp [laws_FnEscPlain.j2])
                    | succ kj16 =>
                      have H := HA.out
                      clear HA
                      simp only [laws_FnEscPlain.j2] at H
                      have HC28 := Aside0.mk H
                      clear H
                      go_upto_region 13 with (fail)
                      go_cut [85] (fun v85 wc => ∃ (kq : Nat) (x85_27 : Bool), v85 = .bool x85_27 ∧ Aside0 (laws_FnEscPlain.j3 kq t194 x8_2 x10_16 x85_27 = some r) ∧ Aside0 (kq ≤ kj16) ∧ Aside0 (Below w.heap.size w wc))
                      case first =>
                        have H := HC28.out
                        clear HC28
                        by_cases c29 : (bt t194 x8_2) = 37
                        · rw [if_pos c29] at H
                          have c29b0 : ((bt t194 x8_2) == 37) = true := beq_iff_eq.mpr c29
                          have c29b1 : ((bt t194 x8_2) != 37) = false := bne_eq_false_iff_eq.mpr c29
                          clear c29
                          (first | rw [c29b0] | (simp only [i64_w, i32_w]; rw [c29b0]) | skip)
                          have H' := Aside0.mk H
                          clear H
                          go_wp2
                          go_meet
                          case rel => exact ⟨_, (decide ((wrap64 (x8_2 + 2)) < (t194.size : Int))), (by first | rfl | (simp; done) | (simp only [i64_w, i32_w]; done) | (simp only [i64_w, i32_w]; rfl) | (simp [*]; done)), H', ⟨by have := HJ5.out; have := HK2.out; have := HJ16.out; first | omega | exact Nat.le_refl _⟩, ⟨by repeat (first | (with_reducible first | exact HB.out | apply below_alloc | apply pw_below_drewN | apply below_drew1) | exact HB.out)⟩⟩
                        · rw [if_neg c29] at H
                          have c29b0 : ((bt t194 x8_2) == 37) = false := beq_eq_false_iff_ne.mpr c29
                          have c29b1 : ((bt t194 x8_2) != 37) = true := bne_iff_ne.mpr c29
                          (first | rw [c29b0] | (simp only [i64_w, i32_w]; rw [c29b0]) | skip)
                          have H' := Aside0.mk H
                          clear H
                          go_wp2
                          go_meet
                          case rel => exact ⟨_, (false), (by first | rfl | (simp; done) | (simp only [i64_w, i32_w]; done) | (simp only [i64_w, i32_w]; rfl) | (simp [*]; done)), H', ⟨by have := HJ5.out; have := HK2.out; have := HJ16.out; first | omega | exact Nat.le_refl _⟩, ⟨by repeat (first | (with_reducible first | exact HB.out | apply below_alloc | apply pw_below_drewN | apply below_drew1) | exact HB.out)⟩⟩
                      case rest =>
                        clear HC28
                        try clear c1
                        try clear p1
                        try clear q1
                        try clear hx1
                        try clear c2
                        try clear c2b0
                        try clear c2b1
                        try clear p2
                        try clear c3
                        try clear p6
                        try clear c10
                        try clear c10b0
                        try clear c10b1
                        try clear c10b2
                        try clear c11
                        try clear c11b0
                        try clear c11b1
                        try clear c12
                        try clear c13
                        try clear c13b0
                        try clear c13b1
                        try clear c13b2
                        try clear c14
                        try clear c14b0
                        try clear c15
                        try clear c15b0
                        try clear p16
                        try clear q16
                        try clear hx16
                        try clear c18
                        try clear c18b0
                        try clear c19
                        try clear c19b0
                        try clear c20
                        try clear c20b0
                        try clear c21
                        try clear c21b0
                        try clear c22
                        try clear c22b0
                        try clear c22b1
                        try clear c23
                        try clear c23b0
                        try clear c23b1
                        try clear c24
                        try clear c24b0
                        try clear c25
                        try clear c25b0
                        try clear c26
                        try clear c26b0
                        try clear c26b1
                        try clear c27
                        try clear c27b0
                        try clear c27b1
                        try clear c29
                        try clear c29b0
                        try clear c29b1
                        try clear p1
                        try clear p16
                        try clear p2
                        try clear q1
                        try clear q16
                        obtain ⟨kq, x85_27, rfl, HA, HJ27, HB⟩ := hcut
                        cases kq with
                        | zero => exact absurd HA.out (by simp [laws_FnEscPlain.j3])
                        | succ kj27 =>
                          have H := HA.out
                          clear HA
                          simp only [laws_FnEscPlain.j3] at H
                          by_cases c30 : x85_27 = true
                          · subst c30
                            have H1 : (laws_FnEscPlain.l0 kj27 t194 (wrap64 ((wrap64 (x8_2 + 2)) + 1))) = some r := by rw [if_pos rfl] at H; exact H
                            clear H
                            have H := H1
                            clear H1
                            have H' := Aside0.mk H
                            clear H
                            go_wp2
                            go_roundg kj27
                            case measure => have := HJ5.out; have := HK2.out; have := HJ16.out; have := HJ27.out; omega
                            case rel => exact ⟨(wrap64 ((wrap64 (x8_2 + 2)) + 1)), (by first | rfl | (simp; done) | (simp only [i64_w, i32_w]; done) | (simp only [i64_w, i32_w]; rfl) | (simp [*]; done)), H', ⟨by have := HJ5.out; have := HK2.out; have := HJ16.out; have := HJ27.out; omega⟩, ⟨by repeat (first | (with_reducible first | exact HB.out | apply below_alloc | apply pw_below_drewN | apply below_drew1) | exact HB.out)⟩⟩
                          · replace c30 := Bool.eq_false_iff.mpr c30
                            subst c30
                            have H1 : (if x10_16 = true then (laws_FnEscPlain.l0 kj27 t194 (wrap64 (x8_2 + 1))) else (some false)) = some r := by rw [if_neg (show ¬ (false = true) by decide)] at H; exact H
                            clear H
                            have H := H1
                            clear H1
                            by_cases c31 : x10_16 = true
                            · subst c31
                              have H1 : (laws_FnEscPlain.l0 kj27 t194 (wrap64 (x8_2 + 1))) = some r := by rw [if_pos rfl] at H; exact H
                              clear H
                              have H := H1
                              clear H1
                              have H' := Aside0.mk H
                              clear H
                              go_wp2
                              go_roundg kj27
                              case measure => have := HJ5.out; have := HK2.out; have := HJ16.out; have := HJ27.out; omega
                              case rel => exact ⟨(wrap64 (x8_2 + 1)), (by first | rfl | (simp; done) | (simp only [i64_w, i32_w]; done) | (simp only [i64_w, i32_w]; rfl) | (simp [*]; done)), H', ⟨by have := HJ5.out; have := HK2.out; have := HJ16.out; have := HJ27.out; omega⟩, ⟨by repeat (first | (with_reducible first | exact HB.out | apply below_alloc | apply pw_below_drewN | apply below_drew1) | exact HB.out)⟩⟩
                            · replace c31 := Bool.eq_false_iff.mpr c31
                              subst c31
                              have H1 : (some false) = some r := by rw [if_neg (show ¬ (false = true) by decide)] at H; exact H
                              clear H
                              have H := H1
                              clear H1
                              obtain rfl := Option.some.inj H
                              go_wp2
                              go_ret
                              exact ⟨by first | rfl | (simp [errW_none, errW_some] <;> rfl) | (simp [*, errW_none, errW_some] <;> rfl), by repeat (first | (with_reducible first | exact HB.out | apply below_alloc | apply pw_below_drewN | apply below_drew1) | exact HB.out)⟩
                · rw [if_neg c15] at H
                  exact absurd H (by simp)
              · rw [if_neg c14] at H
                have c14b0 : decide (x8_2 < (t194.size : Int)) = false := decide_eq_false c14
                clear c14
                obtain rfl := Option.some.inj H
                go_wp2
                go_ret
                exact ⟨by first | rfl | (simp [errW_none, errW_some] <;> rfl) | (simp [*, errW_none, errW_some] <;> rfl), by repeat (first | (with_reducible first | exact HB.out | apply below_alloc | apply pw_below_drewN | apply below_drew1) | exact HB.out)⟩

/-- THE ONE PURE STATEMENT of laws_FnEscPlain: yours. -/
def laws_FnEscPlain.Pure : Prop := ∀ (l0 : List Int), l0.length ≤ maxLen → l0.length * 1 ≤ 140737488351232 → (∀ x ∈ l0, (Lit.int .u8 x).wf = true) → ∃ k, laws_FnEscPlain.f k l0 = some true
theorem laws_FnEscPlain.walk (P : laws_FnEscPlain.Pure) (a0 : Option Addr) (len0 cap0 : Nat) (z0 : List Int) (w : World) (w0 : (a0 = none ∧ len0 = 0 ∧ cap0 = 0 ∧ z0 = []) ∨ ∃ x, a0 = some x ∧ len0 ≤ cap0 ∧ cap0 ≤ maxLen ∧ z0.length = cap0 ∧ (∀ i, i < z0.length → w.cell? (x.add i) = some (.int .u8 (z0.getD i 0))) ∧ ∀ n ∈ z0, (Lit.int .u8 n).wf = true) (y0 : len0 * 1 ≤ 140737488351232) :
    Calls Try.prog 12 #[.slice a0 len0 cap0] w fun e w' => e = .returned (.bool true) ∧ Below w.heap.size w w' := by
  obtain ⟨l0, rfl, hr0, hm0, hw0, hc0⟩ := ReadsInt.ofRowC w0
  obtain ⟨k, h⟩ := P l0 hm0 y0 hw0
  refine (laws_FnEscPlain.calls k _ _ l0 true w (Kd.C_of_reads (d := (0 : Int)) (h1 := fun _ => rfl) hr0) hc0 h).mono ?_
  rintro e w' ⟨rfl, hd⟩
  exact ⟨rfl, hd⟩

end Go.Proofs.Ytpganphmapdkcaa.P
