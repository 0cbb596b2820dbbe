-- Written by a program of this session (patch_print.py over the kit's print; given texts in wip/given).
import Derived.Test.YtmkncihmgbjgnaaPx0
import Derived.Test.YtmkncihmgbjgnaaPx2
import Derived.Test.YtmkncihmgbjgnaaPx3
import Derived.Test.YtmkncihmgbjgnaaPx5
import Derived.Test.YtmkncihmgbjgnaaPx12
import Derived.Test.YtmkncihmgbjgnaaPx14
namespace Go.Proofs.Ytmkncihmgbjgnaa.P
open Go.RowKit Go.Proofs.YtmkncihmgbjgnaaW.PrintWords Go.Proofs.YtmkncihmgbjgnaaW.PrintLast Go.Proofs.YtmkncihmgbjgnaaW.PrintMore
attribute [local go_sem] max2_int min2_int max_two min_two max_three min_three max_four min_four   -- for this text's walks alone
set_option linter.unusedVariables false
set_option linter.unusedSimpArgs false

/-! ### laws_FnRuleStar: function 9 -/
def laws_FnRuleStar.j0 : Nat → ByteArray → ByteArray → Bool → Bool → Option (Bool)
  | 0, _, _, _, _ => none
  | k + 1, x3, x4, x5, x35 => if x35 = true then ((spec_RuleHas.f k x3 x4).bind fun t491 => (some (x5 == t491))) else (if x3.size + 1 ≤ 9223372036854775807 then ((impl_RuleHas.f k (x3 ++ (⟨#[42]⟩ : ByteArray)) x4).bind fun t492 => (if (t492 == x5) = true then ((impl_RuleHas.f k (⟨#[47, 42]⟩ : ByteArray) x4).bind fun t493 => (if (x4.size : Int) > 0 then (if 0 < (x4.size : Int) then (some (t493 == ((bt x4 0) == 47))) else (none)) else (some (t493 == false)))) else (some false))) else (none))
def laws_FnRuleStar.f (k : Nat) (l0 : List Int) : Option (Bool) := if (l0.length : Int) > 1048576 then (some true) else ((spec_DrawRuleHas.f k l0).bind fun bt485 => ((impl_RuleHas.f k bt485.1 bt485.2).bind fun t487 => ((spec_RuleHas.f k bt485.1 bt485.2).bind fun t488 => (if (t487 != t488) = true then (laws_FnRuleStar.j0 k bt485.1 bt485.2 t487 true) else ((spec_RuleOk.f k bt485.1).bind fun t489 => (if t489 = true then ((laws_lpEnds.f bt485.1).bind fun t490 => (if t490 = true then (laws_FnRuleStar.j0 k bt485.1 bt485.2 t487 true) else (laws_FnRuleStar.j0 k bt485.1 bt485.2 t487 (decide ((bt485.1.size : Int) ≥ 16))))) else (laws_FnRuleStar.j0 k bt485.1 bt485.2 t487 true)))))))
theorem laws_FnRuleStar.mono_l : ∀ k, (∀ y0 y1 y2 y3, LeO (laws_FnRuleStar.j0 k y0 y1 y2 y3) (laws_FnRuleStar.j0 (k + 1) y0 y1 y2 y3))
  | 0 => fun _ _ _ _ r h => by simp [laws_FnRuleStar.j0] at h
  | k + 1 => by
    have ih0 := laws_FnRuleStar.mono_l k
    · intro y0 y1 y2 y3
      unfold laws_FnRuleStar.j0
      repeat' first
      | (with_reducible exact ih0 _ _ _ _)
      | (with_reducible exact impl_RuleHas.mono _ _ _)
      | (with_reducible exact spec_DrawRuleHas.mono _ _)
      | (with_reducible exact spec_RuleHas.mono _ _ _)
      | (with_reducible exact spec_RuleOk.mono _ _)
      | (with_reducible exact LeO.refl _)
      | (with_reducible exact LeO.none _)
      | (with_reducible refine LeO.ite ?_ ?_)
      | (with_reducible refine LeO.bind ?_ (fun _ => ?_))
      | exact ih0 _ _ _ _
      | exact impl_RuleHas.mono _ _ _
      | exact spec_DrawRuleHas.mono _ _
      | exact spec_RuleHas.mono _ _ _
      | exact spec_RuleOk.mono _ _
      | exact LeO.none _
      | refine LeO.ite ?_ ?_
      | refine LeO.bind ?_ (fun _ => ?_)
theorem laws_FnRuleStar.mono : ∀ a0 k, LeO (laws_FnRuleStar.f k a0) (laws_FnRuleStar.f (k + 1) a0) := by
  intro a0 k
  have ih0 := laws_FnRuleStar.mono_l k
  unfold laws_FnRuleStar.f
  repeat' first
      | (with_reducible exact ih0 _ _ _ _)
      | (with_reducible exact impl_RuleHas.mono _ _ _)
      | (with_reducible exact spec_DrawRuleHas.mono _ _)
      | (with_reducible exact spec_RuleHas.mono _ _ _)
      | (with_reducible exact spec_RuleOk.mono _ _)
      | (with_reducible exact LeO.refl _)
      | (with_reducible exact LeO.none _)
      | (with_reducible refine LeO.ite ?_ ?_)
      | (with_reducible refine LeO.bind ?_ (fun _ => ?_))
      | exact ih0 _ _ _ _
      | exact impl_RuleHas.mono _ _ _
      | exact spec_DrawRuleHas.mono _ _
      | exact spec_RuleHas.mono _ _ _
      | exact spec_RuleOk.mono _ _
      | exact LeO.none _
      | refine LeO.ite ?_ ?_
      | refine LeO.bind ?_ (fun _ => ?_)
set_option maxHeartbeats 8000000 in
set_option maxRecDepth 100000 in
theorem laws_FnRuleStar.calls (k : Nat) (A0 : Option Addr) (c0 : Nat) (l0 : List Int) (r : Bool) (w : World) (hr0 : Kd.C (Kd.int .u8) w A0 l0.length l0) (hc0 : l0.length ≤ c0) (h : laws_FnRuleStar.f k l0 = some r) :
    Calls Try.prog 9 #[.slice A0 l0.length c0] w fun e w' => e = .returned (.bool r) ∧ Below w.heap.size w w' := by
  have HR0 := Aside0.mk hr0
  have HC0 := Aside0.mk hc0
  clear hr0 hc0
  have HB := Aside0.mk (Below.refl w.heap.size w)
  have H : (if (l0.length : Int) > 1048576 then (some true) else ((spec_DrawRuleHas.f k l0).bind fun bt485 => ((impl_RuleHas.f k bt485.1 bt485.2).bind fun t487 => ((spec_RuleHas.f k bt485.1 bt485.2).bind fun t488 => (if (t487 != t488) = true then (laws_FnRuleStar.j0 k bt485.1 bt485.2 t487 true) else ((spec_RuleOk.f k bt485.1).bind fun t489 => (if t489 = true then ((laws_lpEnds.f bt485.1).bind fun t490 => (if t490 = true then (laws_FnRuleStar.j0 k bt485.1 bt485.2 t487 true) else (laws_FnRuleStar.j0 k bt485.1 bt485.2 t487 (decide ((bt485.1.size : Int) ≥ 16))))) else (laws_FnRuleStar.j0 k bt485.1 bt485.2 t487 true)))))))) = some r := h
  clear h
  by_cases c2 : (l0.length : Int) > 1048576
  · rw [if_pos c2] at H
    have c2b0 : decide (1048576 < (l0.length : Int)) = true := decide_eq_true c2
    have c2b1 : decide (1048576 < l0.length) = true := decide_eq_true (by omega)
    clear c2
    obtain rfl := Option.some.inj H
    go_enter Try.func9, Try.ntmps9
    go_wp2
    go_ret
    exact ⟨by first | rfl | (simp [errW_none, errW_some] <;> rfl) | (simp [*, errW_none, errW_some] <;> rfl), by repeat (first | (with_reducible first | exact HB.out | apply below_alloc | apply pw_below_drewN | apply below_drew1) | exact HB.out)⟩
  · rw [if_neg c2] at H
    have c2b0 : decide (1048576 < (l0.length : Int)) = false := decide_eq_false c2
    have c2b1 : decide (1048576 < l0.length) = false := decide_eq_false (by omega)
    clear c2
    replace H := Option.bind_eq_some_iff.mp H
    obtain ⟨⟨t485, t486⟩, A30, H⟩ := H
    replace H : ((impl_RuleHas.f k t485 t486).bind fun t487 => ((spec_RuleHas.f k t485 t486).bind fun t488 => (if (t487 != t488) = true then (laws_FnRuleStar.j0 k t485 t486 t487 true) else ((spec_RuleOk.f k t485).bind fun t489 => (if t489 = true then ((laws_lpEnds.f t485).bind fun t490 => (if t490 = true then (laws_FnRuleStar.j0 k t485 t486 t487 true) else (laws_FnRuleStar.j0 k t485 t486 t487 (decide ((t485.size : Int) ≥ 16))))) else (laws_FnRuleStar.j0 k t485 t486 t487 true)))))) = some r := H
    have A3 := Aside0.mk A30
    clear A30
    replace H := Option.bind_eq_some_iff.mp H
    obtain ⟨t487, A40, H⟩ := H
    replace H : ((spec_RuleHas.f k t485 t486).bind fun t488 => (if (t487 != t488) = true then (laws_FnRuleStar.j0 k t485 t486 t487 true) else ((spec_RuleOk.f k t485).bind fun t489 => (if t489 = true then ((laws_lpEnds.f t485).bind fun t490 => (if t490 = true then (laws_FnRuleStar.j0 k t485 t486 t487 true) else (laws_FnRuleStar.j0 k t485 t486 t487 (decide ((t485.size : Int) ≥ 16))))) else (laws_FnRuleStar.j0 k t485 t486 t487 true))))) = some r := H
    have A4 := Aside0.mk A40
    clear A40
    have HC5 := Aside0.mk H
    clear H
    go_enter Try.func9, Try.ntmps9
    go_upto_region 5 with (first | ((with_reducible refine gate_callee (f := 20) rfl ?_); refine goesL_ (some 11) rfl rfl Try.func20 (by kernel_rfl) rfl #[.slice A0 l0.length c0] rfl (by (try simp only [List.map_toArray, List.map_cons, List.map_nil]); first | done | rfl | (simp only [List.length_drop, List.length_take]; rfl)) ?_; (with_reducible refine (spec_DrawRuleHas.calls k _ _ l0 t485 t486 _ ?side1 ?side2 A3.out).mono ?_); (case side1 => repeat (first | exact HR0.out | (with_reducible refine Kd.C_alloc ?_ _) | (with_reducible refine Kd.C_drewN ?_ _) | (with_reducible refine Kd.C_drew ?_))); (case side2 => exact HC0.out); rintro e w6 ⟨rfl, hb⟩; refine ⟨_, rfl, ?_⟩; have n0_ := Aside0.mk (below_step (by repeat (first | (with_reducible first | exact HB.out | apply below_alloc | apply pw_below_drewN | apply below_drew1) | exact HB.out)) hb); clear HB; have HB := n0_; clear n0_; (try clear hb); (try clear hb2); (try clear hk); (try clear hi)) | ((with_reducible refine gate_callee (f := 14) rfl ?_); refine goesL_ (some 16) rfl rfl Try.func14 (by kernel_rfl) rfl #[.string t485, .string t486] rfl (by (try simp only [List.map_toArray, List.map_cons, List.map_nil]); first | done | rfl | (simp only [List.length_drop, List.length_take]; rfl)) ?_; (with_reducible refine (impl_RuleHas.calls k t485 t486 t487 _ A4.out).mono ?_); rintro e w7 ⟨rfl, hb⟩; refine ⟨_, rfl, ?_⟩; have n0_ := Aside0.mk (below_step (by repeat (first | (with_reducible first | exact HB.out | apply below_alloc | apply pw_below_drewN | apply below_drew1) | exact HB.out)) hb); clear HB; have HB := n0_; clear n0_; (try clear hb); (try clear hb2); (try clear hk); (try clear hi)))
    (try simp only [Act.put, List.setIfInBounds_toArray, List.set_cons_zero, List.set_cons_succ])
    go_cut [35] (fun v35 wc => ∃ (kq : Nat) (x35_4 : Bool), v35 = .bool x35_4 ∧ Aside0 (laws_FnRuleStar.j0 kq t485 t486 t487 x35_4 = some r) ∧ Aside0 (kq ≤ k) ∧ Aside0 (Below w.heap.size w wc))
    case first =>
      have H := HC5.out
      clear HC5
      replace H := Option.bind_eq_some_iff.mp H
      obtain ⟨t488, A80, H⟩ := H
      replace H : (if (t487 != t488) = true then (laws_FnRuleStar.j0 k t485 t486 t487 true) else ((spec_RuleOk.f k t485).bind fun t489 => (if t489 = true then ((laws_lpEnds.f t485).bind fun t490 => (if t490 = true then (laws_FnRuleStar.j0 k t485 t486 t487 true) else (laws_FnRuleStar.j0 k t485 t486 t487 (decide ((t485.size : Int) ≥ 16))))) else (laws_FnRuleStar.j0 k t485 t486 t487 true)))) = some r := H
      have A8 := Aside0.mk A80
      clear A80
      by_cases c9 : (t487 != t488) = true
      · rw [if_pos c9] at H
        have c9b0 : (t487 != t488) = true := c9
        (try (have c9b1 : decide (t487 = t488) = false := by simpa using c9))
        (try (have c9b2 : (t487 == t488) = false := by simpa using c9))
        (try (have c9b3 : ¬ (t487 = t488) := by simpa using c9))
        clear c9
        (first | rw [c9b0] | (simp only [i64_w, i32_w]; rw [c9b0]) | skip)
        have H' := Aside0.mk H
        clear H
        go_wp2_with (first | ((with_reducible refine gate_callee (f := 13) rfl ?_); refine goesL_ (some 20) rfl rfl Try.func13 (by kernel_rfl) rfl #[.string t485, .string t486] rfl (by (try simp only [List.map_toArray, List.map_cons, List.map_nil]); first | done | rfl | (simp only [List.length_drop, List.length_take]; rfl)) ?_; (with_reducible refine (spec_RuleHas.calls k t485 t486 t488 _ A8.out).mono ?_); rintro e w10 ⟨rfl, hb⟩; refine ⟨_, rfl, ?_⟩; have n0_ := Aside0.mk (below_step (by repeat (first | (with_reducible first | exact HB.out | apply below_alloc | apply pw_below_drewN | apply below_drew1) | exact HB.out)) hb); clear HB; have HB := n0_; clear n0_; (try clear hb); (try clear hb2); (try clear hk); (try clear hi)))
        go_meet
        case rel => exact ⟨_, (true), (by first | rfl | (simp; done) | (simp only [i64_w, i32_w]; done) | (simp only [i64_w, i32_w]; rfl) | (simp [*]; done) | (simp [emp_bne, emp_beq]; done)), H', ⟨by first | omega | exact Nat.le_refl _⟩, ⟨by repeat (first | (with_reducible first | exact HB.out | apply below_alloc | apply pw_below_drewN | apply below_drew1) | exact HB.out)⟩⟩
      · rw [if_neg c9] at H
        have c9b0 : (t487 != t488) = false := by simpa using c9
        (try (have c9b1 : decide (t487 = t488) = true := by simpa using c9))
        (try (have c9b2 : (t487 == t488) = true := by simpa using c9))
        clear c9
        (first | rw [c9b0] | (simp only [i64_w, i32_w]; rw [c9b0]) | skip)
        replace H := Option.bind_eq_some_iff.mp H
        obtain ⟨t489, A110, H⟩ := H
        replace H : (if t489 = true then ((laws_lpEnds.f t485).bind fun t490 => (if t490 = true then (laws_FnRuleStar.j0 k t485 t486 t487 true) else (laws_FnRuleStar.j0 k t485 t486 t487 (decide ((t485.size : Int) ≥ 16))))) else (laws_FnRuleStar.j0 k t485 t486 t487 true)) = some r := H
        have A11 := Aside0.mk A110
        clear A110
        by_cases c12 : t489 = true
        · subst c12
          have H1 : ((laws_lpEnds.f t485).bind fun t490 => (if t490 = true then (laws_FnRuleStar.j0 k t485 t486 t487 true) else (laws_FnRuleStar.j0 k t485 t486 t487 (decide ((t485.size : Int) ≥ 16))))) = some r := by rw [if_pos rfl] at H; exact H
          clear H
          have H := H1
          clear H1
          replace H := Option.bind_eq_some_iff.mp H
          obtain ⟨t490, A130, H⟩ := H
          replace H : (if t490 = true then (laws_FnRuleStar.j0 k t485 t486 t487 true) else (laws_FnRuleStar.j0 k t485 t486 t487 (decide ((t485.size : Int) ≥ 16)))) = some r := H
          have A13 := Aside0.mk A130
          clear A130
          by_cases c14 : t490 = true
          · subst c14
            have H1 : (laws_FnRuleStar.j0 k t485 t486 t487 true) = some r := by rw [if_pos rfl] at H; exact H
            clear H
            have H := H1
            clear H1
            have H' := Aside0.mk H
            clear H
            go_wp2_with (first | ((with_reducible refine gate_callee (f := 13) rfl ?_); refine goesL_ (some 20) rfl rfl Try.func13 (by kernel_rfl) rfl #[.string t485, .string t486] rfl (by (try simp only [List.map_toArray, List.map_cons, List.map_nil]); first | done | rfl | (simp only [List.length_drop, List.length_take]; rfl)) ?_; (with_reducible refine (spec_RuleHas.calls k t485 t486 t488 _ A8.out).mono ?_); rintro e w15 ⟨rfl, hb⟩; refine ⟨_, rfl, ?_⟩; have n0_ := Aside0.mk (below_step (by repeat (first | (with_reducible first | exact HB.out | apply below_alloc | apply pw_below_drewN | apply below_drew1) | exact HB.out)) hb); clear HB; have HB := n0_; clear n0_; (try clear hb); (try clear hb2); (try clear hk); (try clear hi)) | (go_at_call 22; (with_reducible refine (spec_RuleOk.calls k t485 true _ A11.out).mono ?_); rintro e w' ⟨rfl, ⟨nd, rfl⟩⟩) | (go_at_call 23; (with_reducible refine (laws_lpEnds.calls t485 true _ A13.out).mono ?_); rintro e w' ⟨rfl, ⟨nd, rfl⟩⟩))
            go_meet
            case rel => exact ⟨_, (true), (by first | rfl | (simp; done) | (simp only [i64_w, i32_w]; done) | (simp only [i64_w, i32_w]; rfl) | (simp [*]; done) | (simp [emp_bne, emp_beq]; done)), H', ⟨by first | omega | exact Nat.le_refl _⟩, ⟨by repeat (first | (with_reducible first | exact HB.out | apply below_alloc | apply pw_below_drewN | apply below_drew1) | exact HB.out)⟩⟩
          · replace c14 := Bool.eq_false_iff.mpr c14
            subst c14
            have H1 : (laws_FnRuleStar.j0 k t485 t486 t487 (decide ((t485.size : Int) ≥ 16))) = some r := by rw [if_neg (show ¬ (false = true) by decide)] at H; exact H
            clear H
            have H := H1
            clear H1
            have H' := Aside0.mk H
            clear H
            go_wp2_with (first | ((with_reducible refine gate_callee (f := 13) rfl ?_); refine goesL_ (some 20) rfl rfl Try.func13 (by kernel_rfl) rfl #[.string t485, .string t486] rfl (by (try simp only [List.map_toArray, List.map_cons, List.map_nil]); first | done | rfl | (simp only [List.length_drop, List.length_take]; rfl)) ?_; (with_reducible refine (spec_RuleHas.calls k t485 t486 t488 _ A8.out).mono ?_); rintro e w16 ⟨rfl, hb⟩; refine ⟨_, rfl, ?_⟩; have n0_ := Aside0.mk (below_step (by repeat (first | (with_reducible first | exact HB.out | apply below_alloc | apply pw_below_drewN | apply below_drew1) | exact HB.out)) hb); clear HB; have HB := n0_; clear n0_; (try clear hb); (try clear hb2); (try clear hk); (try clear hi)) | (go_at_call 22; (with_reducible refine (spec_RuleOk.calls k t485 true _ A11.out).mono ?_); rintro e w' ⟨rfl, ⟨nd, rfl⟩⟩) | (go_at_call 23; (with_reducible refine (laws_lpEnds.calls t485 false _ A13.out).mono ?_); rintro e w' ⟨rfl, ⟨nd, rfl⟩⟩))
            go_meet
            case rel => exact ⟨_, (decide ((t485.size : Int) ≥ 16)), (by first | rfl | (simp; done) | (simp only [i64_w, i32_w]; done) | (simp only [i64_w, i32_w]; rfl) | (simp [*]; done) | (simp [emp_bne, emp_beq]; done)), H', ⟨by first | omega | exact Nat.le_refl _⟩, ⟨by repeat (first | (with_reducible first | exact HB.out | apply below_alloc | apply pw_below_drewN | apply below_drew1) | exact HB.out)⟩⟩
        · replace c12 := Bool.eq_false_iff.mpr c12
          subst c12
          have H1 : (laws_FnRuleStar.j0 k t485 t486 t487 true) = some r := by rw [if_neg (show ¬ (false = true) by decide)] at H; exact H
          clear H
          have H := H1
          clear H1
          have H' := Aside0.mk H
          clear H
          go_wp2_with (first | ((with_reducible refine gate_callee (f := 13) rfl ?_); refine goesL_ (some 20) rfl rfl Try.func13 (by kernel_rfl) rfl #[.string t485, .string t486] rfl (by (try simp only [List.map_toArray, List.map_cons, List.map_nil]); first | done | rfl | (simp only [List.length_drop, List.length_take]; rfl)) ?_; (with_reducible refine (spec_RuleHas.calls k t485 t486 t488 _ A8.out).mono ?_); rintro e w17 ⟨rfl, hb⟩; refine ⟨_, rfl, ?_⟩; have n0_ := Aside0.mk (below_step (by repeat (first | (with_reducible first | exact HB.out | apply below_alloc | apply pw_below_drewN | apply below_drew1) | exact HB.out)) hb); clear HB; have HB := n0_; clear n0_; (try clear hb); (try clear hb2); (try clear hk); (try clear hi)) | (go_at_call 22; (with_reducible refine (spec_RuleOk.calls k t485 false _ A11.out).mono ?_); rintro e w' ⟨rfl, ⟨nd, rfl⟩⟩))
          go_meet
          case rel => exact ⟨_, (true), (by first | rfl | (simp; done) | (simp only [i64_w, i32_w]; done) | (simp only [i64_w, i32_w]; rfl) | (simp [*]; done) | (simp [emp_bne, emp_beq]; done)), H', ⟨by first | omega | exact Nat.le_refl _⟩, ⟨by repeat (first | (with_reducible first | exact HB.out | apply below_alloc | apply pw_below_drewN | apply below_drew1) | exact HB.out)⟩⟩
    case rest =>
      clear HC5
      try clear c1
      try clear c2
      try clear c2b0
      try clear c2b1
      try clear p2
      try clear c9
      try clear c9b0
      try clear c9b1
      try clear c9b2
      try clear c12
      try clear c13
      try clear c14
      obtain ⟨kq, x35_4, rfl, HA, HJ4, HB⟩ := hcut
      cases kq with
      | zero => exact absurd HA.out (by simp [laws_FnRuleStar.j0])
      | succ kj4 =>
        have H := HA.out
        clear HA
        simp only [laws_FnRuleStar.j0] at H
        by_cases c18 : x35_4 = true
        · subst c18
          have H1 : ((spec_RuleHas.f kj4 t485 t486).bind fun t491 => (some (t487 == t491))) = some r := by rw [if_pos rfl] at H; exact H
          clear H
          have H := H1
          clear H1
          replace H := Option.bind_eq_some_iff.mp H
          obtain ⟨t491, A190, H⟩ := H
          replace H : (some (t487 == t491)) = some r := H
          have A19 := Aside0.mk A190
          clear A190
          obtain rfl := Option.some.inj H
          go_wp2_with (first | ((with_reducible refine gate_callee (f := 13) rfl ?_); refine goesL_ (some 39) rfl rfl Try.func13 (by kernel_rfl) rfl #[.string t485, .string t486] rfl (by (try simp only [List.map_toArray, List.map_cons, List.map_nil]); first | done | rfl | (simp only [List.length_drop, List.length_take]; rfl)) ?_; (with_reducible refine (spec_RuleHas.calls kj4 t485 t486 t491 _ A19.out).mono ?_); rintro e w20 ⟨rfl, hb⟩; refine ⟨_, rfl, ?_⟩; have n0_ := Aside0.mk (below_step (by repeat (first | (with_reducible first | exact HB.out | apply below_alloc | apply pw_below_drewN | apply below_drew1) | exact HB.out)) hb); clear HB; have HB := n0_; clear n0_; (try clear hb); (try clear hb2); (try clear hk); (try clear hi)))
          go_ret
          exact ⟨by first | rfl | (simp [errW_none, errW_some] <;> rfl) | (simp [*, errW_none, errW_some] <;> rfl), by repeat (first | (with_reducible first | exact HB.out | apply below_alloc | apply pw_below_drewN | apply below_drew1) | exact HB.out)⟩
        · replace c18 := Bool.eq_false_iff.mpr c18
          subst c18
          have H1 : (if t485.size + 1 ≤ 9223372036854775807 then ((impl_RuleHas.f kj4 (t485 ++ (⟨#[42]⟩ : ByteArray)) t486).bind fun t492 => (if (t492 == t487) = true then ((impl_RuleHas.f kj4 (⟨#[47, 42]⟩ : ByteArray) t486).bind fun t493 => (if (t486.size : Int) > 0 then (if 0 < (t486.size : Int) then (some (t493 == ((bt t486 0) == 47))) else (none)) else (some (t493 == false)))) else (some false))) else (none)) = some r := by rw [if_neg (show ¬ (false = true) by decide)] at H; exact H
          clear H
          have H := H1
          clear H1
          by_cases c21 : t485.size + 1 ≤ 9223372036854775807
          · rw [if_pos c21] at H
            have c21b0 := eq_true c21
            have c21b1 : decide (t485.size + 1 ≤ 9223372036854775807) = true := decide_eq_true c21
            try have c21b2 : (9223372036854775807 < t485.size + 1) = False := eq_false (Nat.not_lt.2 c21)
            replace H := Option.bind_eq_some_iff.mp H
            obtain ⟨t492, A220, H⟩ := H
            replace H : (if (t492 == t487) = true then ((impl_RuleHas.f kj4 (⟨#[47, 42]⟩ : ByteArray) t486).bind fun t493 => (if (t486.size : Int) > 0 then (if 0 < (t486.size : Int) then (some (t493 == ((bt t486 0) == 47))) else (none)) else (some (t493 == false)))) else (some false)) = some r := H
            have A22 := Aside0.mk A220
            clear A220
            by_cases c23 : (t492 == t487) = true
            · rw [if_pos c23] at H
              have c23b0 : (t492 == t487) = true := c23
              (try (have c23b1 : decide (t492 = t487) = true := by simpa using c23))
              (try (have c23b2 : (t492 == t487) = true := by simpa using c23))
              clear c23
              replace H := Option.bind_eq_some_iff.mp H
              obtain ⟨t493, A240, H⟩ := H
              replace H : (if (t486.size : Int) > 0 then (if 0 < (t486.size : Int) then (some (t493 == ((bt t486 0) == 47))) else (none)) else (some (t493 == false))) = some r := H
              have A24 := Aside0.mk A240
              clear A240
              by_cases c25 : (t486.size : Int) > 0
              · rw [if_pos c25] at H
                have c25b0 : decide (0 < (t486.size : Int)) = true := decide_eq_true c25
                have c25b1 : decide (0 < t486.size) = true := decide_eq_true (by omega)
                clear c25
                by_cases c26 : 0 < (t486.size : Int)
                · rw [if_pos c26] at H
                  have c26b0 : decide (0 < (t486.size : Int)) = true := decide_eq_true c26
                  have c26b1 : decide (0 < t486.size) = true := decide_eq_true (by omega)
                  clear c26
                  obtain rfl := Option.some.inj H
                  go_wp2_with (first | ((with_reducible refine gate_callee (f := 14) rfl ?_); refine goesL_ (some 44) rfl rfl Try.func14 (by kernel_rfl) rfl #[.string (t485 ++ (⟨#[42]⟩ : ByteArray)), .string t486] rfl (by (try simp only [List.map_toArray, List.map_cons, List.map_nil]); first | done | rfl | (simp only [List.length_drop, List.length_take]; rfl)) ?_; (with_reducible refine (impl_RuleHas.calls kj4 (t485 ++ (⟨#[42]⟩ : ByteArray)) t486 t492 _ A22.out).mono ?_); rintro e w28 ⟨rfl, hb⟩; refine ⟨_, rfl, ?_⟩; have n0_ := Aside0.mk (below_step (by repeat (first | (with_reducible first | exact HB.out | apply below_alloc | apply pw_below_drewN | apply below_drew1) | exact HB.out)) hb); clear HB; have HB := n0_; clear n0_; (try clear hb); (try clear hb2); (try clear hk); (try clear hi)) | (go_at_call 14; (with_reducible refine (impl_RuleHas.calls kj4 (⟨#[47, 42]⟩ : ByteArray) t486 t493 _ A24.out).mono ?_); rintro e w29 ⟨rfl, hb⟩; have n0_ := Aside0.mk (below_step (by repeat (first | (with_reducible first | exact HB.out | apply below_alloc | apply pw_below_drewN | apply below_drew1) | exact HB.out)) hb); clear HB; have HB := n0_; clear n0_; (try clear hb); (try clear hb2); (try clear hk); (try clear hi); have p27 : 0 ≤ (0 : Int) := (by omega); have q27 : 0 < t486.size := (by have : (0 : Int) < (t486.size : Int) := of_decide_eq_true (by first | (with_reducible assumption) | assumption); omega); have hx27 : ∀ h : 0 < t486.size, ((t486[0]'h).toNat : Int) = bt t486 0 := bt_at t486 0; clear p27; have qi27 : (0 < (t486.size : Int)) = True := eq_true (of_decide_eq_true (by first | (with_reducible assumption) | assumption)); replace q27 := eq_true q27))
                  go_ret
                  exact ⟨by first | rfl | (simp [errW_none, errW_some] <;> rfl) | (simp [*, errW_none, errW_some] <;> rfl), by repeat (first | (with_reducible first | exact HB.out | apply below_alloc | apply pw_below_drewN | apply below_drew1) | exact HB.out)⟩
                · rw [if_neg c26] at H
                  exact absurd H (by simp)
              · rw [if_neg c25] at H
                have c25b0 : decide (0 < (t486.size : Int)) = false := decide_eq_false c25
                have c25b1 : decide (0 < t486.size) = false := decide_eq_false (by omega)
                clear c25
                obtain rfl := Option.some.inj H
                go_wp2_with (first | ((with_reducible refine gate_callee (f := 14) rfl ?_); refine goesL_ (some 44) rfl rfl Try.func14 (by kernel_rfl) rfl #[.string (t485 ++ (⟨#[42]⟩ : ByteArray)), .string t486] rfl (by (try simp only [List.map_toArray, List.map_cons, List.map_nil]); first | done | rfl | (simp only [List.length_drop, List.length_take]; rfl)) ?_; (with_reducible refine (impl_RuleHas.calls kj4 (t485 ++ (⟨#[42]⟩ : ByteArray)) t486 t492 _ A22.out).mono ?_); rintro e w30 ⟨rfl, hb⟩; refine ⟨_, rfl, ?_⟩; have n0_ := Aside0.mk (below_step (by repeat (first | (with_reducible first | exact HB.out | apply below_alloc | apply pw_below_drewN | apply below_drew1) | exact HB.out)) hb); clear HB; have HB := n0_; clear n0_; (try clear hb); (try clear hb2); (try clear hk); (try clear hi)) | (go_at_call 14; (with_reducible refine (impl_RuleHas.calls kj4 (⟨#[47, 42]⟩ : ByteArray) t486 t493 _ A24.out).mono ?_); rintro e w31 ⟨rfl, hb⟩; have n0_ := Aside0.mk (below_step (by repeat (first | (with_reducible first | exact HB.out | apply below_alloc | apply pw_below_drewN | apply below_drew1) | exact HB.out)) hb); clear HB; have HB := n0_; clear n0_; (try clear hb); (try clear hb2); (try clear hk); (try clear hi)))
                go_ret
                exact ⟨by first | rfl | (simp [errW_none, errW_some] <;> rfl) | (simp [*, errW_none, errW_some] <;> rfl), by repeat (first | (with_reducible first | exact HB.out | apply below_alloc | apply pw_below_drewN | apply below_drew1) | exact HB.out)⟩
            · rw [if_neg c23] at H
              have c23b0 : (t492 == t487) = false := by simpa using c23
              (try (have c23b1 : decide (t492 = t487) = false := by simpa using c23))
              (try (have c23b2 : (t492 == t487) = false := by simpa using c23))
              (try (have c23b3 : ¬ (t492 = t487) := by simpa using c23))
              clear c23
              obtain rfl := Option.some.inj H
              go_wp2_with (first | ((with_reducible refine gate_callee (f := 14) rfl ?_); refine goesL_ (some 44) rfl rfl Try.func14 (by kernel_rfl) rfl #[.string (t485 ++ (⟨#[42]⟩ : ByteArray)), .string t486] rfl (by (try simp only [List.map_toArray, List.map_cons, List.map_nil]); first | done | rfl | (simp only [List.length_drop, List.length_take]; rfl)) ?_; (with_reducible refine (impl_RuleHas.calls kj4 (t485 ++ (⟨#[42]⟩ : ByteArray)) t486 t492 _ A22.out).mono ?_); rintro e w32 ⟨rfl, hb⟩; refine ⟨_, rfl, ?_⟩; have n0_ := Aside0.mk (below_step (by repeat (first | (with_reducible first | exact HB.out | apply below_alloc | apply pw_below_drewN | apply below_drew1) | exact HB.out)) hb); clear HB; have HB := n0_; clear n0_; (try clear hb); (try clear hb2); (try clear hk); (try clear hi)))
              go_ret
              exact ⟨by first | rfl | (simp [errW_none, errW_some] <;> rfl) | (simp [*, errW_none, errW_some] <;> rfl), by repeat (first | (with_reducible first | exact HB.out | apply below_alloc | apply pw_below_drewN | apply below_drew1) | exact HB.out)⟩
          · rw [if_neg c21] at H
            exact absurd H (by simp)

/-- THE ONE PURE STATEMENT of laws_FnRuleStar: yours. -/
def laws_FnRuleStar.Pure : Prop := ∀ (l0 : List Int), l0.length ≤ maxLen → l0.length * 1 ≤ 140737488351232 → (∀ x ∈ l0, (Lit.int .u8 x).wf = true) → ∃ k, laws_FnRuleStar.f k l0 = some true
theorem laws_FnRuleStar.walk (P : laws_FnRuleStar.Pure) (a0 : Option Addr) (len0 cap0 : Nat) (z0 : List Int) (w : World) (w0 : (a0 = none ∧ len0 = 0 ∧ cap0 = 0 ∧ z0 = []) ∨ ∃ x, a0 = some x ∧ len0 ≤ cap0 ∧ cap0 ≤ maxLen ∧ z0.length = cap0 ∧ (∀ i, i < z0.length → w.cell? (x.add i) = some (.int .u8 (z0.getD i 0))) ∧ ∀ n ∈ z0, (Lit.int .u8 n).wf = true) (y0 : len0 * 1 ≤ 140737488351232) :
    Calls Try.prog 9 #[.slice a0 len0 cap0] w fun e w' => e = .returned (.bool true) ∧ Below w.heap.size w w' := by
  obtain ⟨l0, rfl, hr0, hm0, hw0, hc0⟩ := ReadsInt.ofRowC w0
  obtain ⟨k, h⟩ := P l0 hm0 y0 hw0
  refine (laws_FnRuleStar.calls k _ _ l0 true w (Kd.C_of_reads (d := (0 : Int)) (h1 := fun _ => rfl) hr0) hc0 h).mono ?_
  rintro e w' ⟨rfl, hd⟩
  exact ⟨rfl, hd⟩

end Go.Proofs.Ytmkncihmgbjgnaa.P
