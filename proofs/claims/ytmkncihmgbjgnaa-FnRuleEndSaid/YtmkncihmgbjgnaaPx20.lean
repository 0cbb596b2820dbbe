-- Written by a program of this session (patch_print.py over the kit's print; given texts in wip/given).
import Derived.Test.YtmkncihmgbjgnaaPx0
import Derived.Test.YtmkncihmgbjgnaaPx2
import Derived.Test.YtmkncihmgbjgnaaPx3
import Derived.Test.YtmkncihmgbjgnaaPx5
import Derived.Test.YtmkncihmgbjgnaaPx12
import Derived.Test.YtmkncihmgbjgnaaPx14
namespace Go.Proofs.Ytmkncihmgbjgnaa.P
open Go.RowKit Go.Proofs.YtmkncihmgbjgnaaW.PrintWords Go.Proofs.YtmkncihmgbjgnaaW.PrintLast Go.Proofs.YtmkncihmgbjgnaaW.PrintMore
attribute [local go_sem] max2_int min2_int max_two min_two max_three min_three max_four min_four   -- for this text's walks alone
set_option linter.unusedVariables false
set_option linter.unusedSimpArgs false

/-! ### laws_FnRuleEnd: function 7 -/
def laws_FnRuleEnd.j0 : Nat → ByteArray → ByteArray → Bool → Bool → Option (Bool)
  | 0, _, _, _, _ => none
  | k + 1, x3, x4, x5, x35 => if x35 = true then ((spec_RuleHas.f k x3 x4).bind fun t448 => (some (x5 == t448))) else (if x3.size + 1 ≤ 9223372036854775807 then ((impl_RuleHas.f k (x3 ++ (⟨#[36]⟩ : ByteArray)) x4).bind fun t449 => (if t449 = true then (some x5) else (some true))) else (none))
def laws_FnRuleEnd.f (k : Nat) (l0 : List Int) : Option (Bool) := if (l0.length : Int) > 1048576 then (some true) else ((spec_DrawRuleHas.f k l0).bind fun bt442 => ((impl_RuleHas.f k bt442.1 bt442.2).bind fun t444 => ((spec_RuleHas.f k bt442.1 bt442.2).bind fun t445 => (if (t444 != t445) = true then (laws_FnRuleEnd.j0 k bt442.1 bt442.2 t444 true) else ((spec_RuleOk.f k bt442.1).bind fun t446 => (if t446 = true then ((laws_lpEnds.f bt442.1).bind fun t447 => (if t447 = true then (laws_FnRuleEnd.j0 k bt442.1 bt442.2 t444 true) else (laws_FnRuleEnd.j0 k bt442.1 bt442.2 t444 (decide ((bt442.1.size : Int) ≥ 16))))) else (laws_FnRuleEnd.j0 k bt442.1 bt442.2 t444 true)))))))
theorem laws_FnRuleEnd.mono_l : ∀ k, (∀ y0 y1 y2 y3, LeO (laws_FnRuleEnd.j0 k y0 y1 y2 y3) (laws_FnRuleEnd.j0 (k + 1) y0 y1 y2 y3))
  | 0 => fun _ _ _ _ r h => by simp [laws_FnRuleEnd.j0] at h
  | k + 1 => by
    have ih0 := laws_FnRuleEnd.mono_l k
    · intro y0 y1 y2 y3
      unfold laws_FnRuleEnd.j0
      repeat' first
      | (with_reducible exact ih0 _ _ _ _)
      | (with_reducible exact impl_RuleHas.mono _ _ _)
      | (with_reducible exact spec_DrawRuleHas.mono _ _)
      | (with_reducible exact spec_RuleHas.mono _ _ _)
      | (with_reducible exact spec_RuleOk.mono _ _)
      | (with_reducible exact LeO.refl _)
      | (with_reducible exact LeO.none _)
      | (with_reducible refine LeO.ite ?_ ?_)
      | (with_reducible refine LeO.bind ?_ (fun _ => ?_))
      | exact ih0 _ _ _ _
      | exact impl_RuleHas.mono _ _ _
      | exact spec_DrawRuleHas.mono _ _
      | exact spec_RuleHas.mono _ _ _
      | exact spec_RuleOk.mono _ _
      | exact LeO.none _
      | refine LeO.ite ?_ ?_
      | refine LeO.bind ?_ (fun _ => ?_)
theorem laws_FnRuleEnd.mono : ∀ a0 k, LeO (laws_FnRuleEnd.f k a0) (laws_FnRuleEnd.f (k + 1) a0) := by
  intro a0 k
  have ih0 := laws_FnRuleEnd.mono_l k
  unfold laws_FnRuleEnd.f
  repeat' first
      | (with_reducible exact ih0 _ _ _ _)
      | (with_reducible exact impl_RuleHas.mono _ _ _)
      | (with_reducible exact spec_DrawRuleHas.mono _ _)
      | (with_reducible exact spec_RuleHas.mono _ _ _)
      | (with_reducible exact spec_RuleOk.mono _ _)
      | (with_reducible exact LeO.refl _)
      | (with_reducible exact LeO.none _)
      | (with_reducible refine LeO.ite ?_ ?_)
      | (with_reducible refine LeO.bind ?_ (fun _ => ?_))
      | exact ih0 _ _ _ _
      | exact impl_RuleHas.mono _ _ _
      | exact spec_DrawRuleHas.mono _ _
      | exact spec_RuleHas.mono _ _ _
      | exact spec_RuleOk.mono _ _
      | exact LeO.none _
      | refine LeO.ite ?_ ?_
      | refine LeO.bind ?_ (fun _ => ?_)
set_option maxHeartbeats 8000000 in
set_option maxRecDepth 100000 in
theorem laws_FnRuleEnd.calls (k : Nat) (A0 : Option Addr) (c0 : Nat) (l0 : List Int) (r : Bool) (w : World) (hr0 : Kd.C (Kd.int .u8) w A0 l0.length l0) (hc0 : l0.length ≤ c0) (h : laws_FnRuleEnd.f k l0 = some r) :
    Calls Try.prog 7 #[.slice A0 l0.length c0] w fun e w' => e = .returned (.bool r) ∧ Below w.heap.size w w' := by
  have HR0 := Aside0.mk hr0
  have HC0 := Aside0.mk hc0
  clear hr0 hc0
  have HB := Aside0.mk (Below.refl w.heap.size w)
  have H : (if (l0.length : Int) > 1048576 then (some true) else ((spec_DrawRuleHas.f k l0).bind fun bt442 => ((impl_RuleHas.f k bt442.1 bt442.2).bind fun t444 => ((spec_RuleHas.f k bt442.1 bt442.2).bind fun t445 => (if (t444 != t445) = true then (laws_FnRuleEnd.j0 k bt442.1 bt442.2 t444 true) else ((spec_RuleOk.f k bt442.1).bind fun t446 => (if t446 = true then ((laws_lpEnds.f bt442.1).bind fun t447 => (if t447 = true then (laws_FnRuleEnd.j0 k bt442.1 bt442.2 t444 true) else (laws_FnRuleEnd.j0 k bt442.1 bt442.2 t444 (decide ((bt442.1.size : Int) ≥ 16))))) else (laws_FnRuleEnd.j0 k bt442.1 bt442.2 t444 true)))))))) = some r := h
  clear h
  by_cases c2 : (l0.length : Int) > 1048576
  · rw [if_pos c2] at H
    have c2b0 : decide (1048576 < (l0.length : Int)) = true := decide_eq_true c2
    have c2b1 : decide (1048576 < l0.length) = true := decide_eq_true (by omega)
    clear c2
    obtain rfl := Option.some.inj H
    go_enter Try.func7, Try.ntmps7
    go_wp2
    go_ret
    exact ⟨by first | rfl | (simp [errW_none, errW_some] <;> rfl) | (simp [*, errW_none, errW_some] <;> rfl), by repeat (first | (with_reducible first | exact HB.out | apply below_alloc | apply pw_below_drewN | apply below_drew1) | exact HB.out)⟩
  · rw [if_neg c2] at H
    have c2b0 : decide (1048576 < (l0.length : Int)) = false := decide_eq_false c2
    have c2b1 : decide (1048576 < l0.length) = false := decide_eq_false (by omega)
    clear c2
    replace H := Option.bind_eq_some_iff.mp H
    obtain ⟨⟨t442, t443⟩, A30, H⟩ := H
    replace H : ((impl_RuleHas.f k t442 t443).bind fun t444 => ((spec_RuleHas.f k t442 t443).bind fun t445 => (if (t444 != t445) = true then (laws_FnRuleEnd.j0 k t442 t443 t444 true) else ((spec_RuleOk.f k t442).bind fun t446 => (if t446 = true then ((laws_lpEnds.f t442).bind fun t447 => (if t447 = true then (laws_FnRuleEnd.j0 k t442 t443 t444 true) else (laws_FnRuleEnd.j0 k t442 t443 t444 (decide ((t442.size : Int) ≥ 16))))) else (laws_FnRuleEnd.j0 k t442 t443 t444 true)))))) = some r := H
    have A3 := Aside0.mk A30
    clear A30
    replace H := Option.bind_eq_some_iff.mp H
    obtain ⟨t444, A40, H⟩ := H
    replace H : ((spec_RuleHas.f k t442 t443).bind fun t445 => (if (t444 != t445) = true then (laws_FnRuleEnd.j0 k t442 t443 t444 true) else ((spec_RuleOk.f k t442).bind fun t446 => (if t446 = true then ((laws_lpEnds.f t442).bind fun t447 => (if t447 = true then (laws_FnRuleEnd.j0 k t442 t443 t444 true) else (laws_FnRuleEnd.j0 k t442 t443 t444 (decide ((t442.size : Int) ≥ 16))))) else (laws_FnRuleEnd.j0 k t442 t443 t444 true))))) = some r := H
    have A4 := Aside0.mk A40
    clear A40
    have HC5 := Aside0.mk H
    clear H
    go_enter Try.func7, Try.ntmps7
    go_upto_region 5 with (first | ((with_reducible refine gate_callee (f := 20) rfl ?_); refine goesL_ (some 11) rfl rfl Try.func20 (by kernel_rfl) rfl #[.slice A0 l0.length c0] rfl (by (try simp only [List.map_toArray, List.map_cons, List.map_nil]); first | done | rfl | (simp only [List.length_drop, List.length_take]; rfl)) ?_; (with_reducible refine (spec_DrawRuleHas.calls k _ _ l0 t442 t443 _ ?side1 ?side2 A3.out).mono ?_); (case side1 => repeat (first | exact HR0.out | (with_reducible refine Kd.C_alloc ?_ _) | (with_reducible refine Kd.C_drewN ?_ _) | (with_reducible refine Kd.C_drew ?_))); (case side2 => exact HC0.out); rintro e w6 ⟨rfl, hb⟩; refine ⟨_, rfl, ?_⟩; have n0_ := Aside0.mk (below_step (by repeat (first | (with_reducible first | exact HB.out | apply below_alloc | apply pw_below_drewN | apply below_drew1) | exact HB.out)) hb); clear HB; have HB := n0_; clear n0_; (try clear hb); (try clear hb2); (try clear hk); (try clear hi)) | ((with_reducible refine gate_callee (f := 14) rfl ?_); refine goesL_ (some 16) rfl rfl Try.func14 (by kernel_rfl) rfl #[.string t442, .string t443] rfl (by (try simp only [List.map_toArray, List.map_cons, List.map_nil]); first | done | rfl | (simp only [List.length_drop, List.length_take]; rfl)) ?_; (with_reducible refine (impl_RuleHas.calls k t442 t443 t444 _ A4.out).mono ?_); rintro e w7 ⟨rfl, hb⟩; refine ⟨_, rfl, ?_⟩; have n0_ := Aside0.mk (below_step (by repeat (first | (with_reducible first | exact HB.out | apply below_alloc | apply pw_below_drewN | apply below_drew1) | exact HB.out)) hb); clear HB; have HB := n0_; clear n0_; (try clear hb); (try clear hb2); (try clear hk); (try clear hi)))
    (try simp only [Act.put, List.setIfInBounds_toArray, List.set_cons_zero, List.set_cons_succ])
    go_cut [35] (fun v35 wc => ∃ (kq : Nat) (x35_4 : Bool), v35 = .bool x35_4 ∧ Aside0 (laws_FnRuleEnd.j0 kq t442 t443 t444 x35_4 = some r) ∧ Aside0 (kq ≤ k) ∧ Aside0 (Below w.heap.size w wc))
    case first =>
      have H := HC5.out
      clear HC5
      replace H := Option.bind_eq_some_iff.mp H
      obtain ⟨t445, A80, H⟩ := H
      replace H : (if (t444 != t445) = true then (laws_FnRuleEnd.j0 k t442 t443 t444 true) else ((spec_RuleOk.f k t442).bind fun t446 => (if t446 = true then ((laws_lpEnds.f t442).bind fun t447 => (if t447 = true then (laws_FnRuleEnd.j0 k t442 t443 t444 true) else (laws_FnRuleEnd.j0 k t442 t443 t444 (decide ((t442.size : Int) ≥ 16))))) else (laws_FnRuleEnd.j0 k t442 t443 t444 true)))) = some r := H
      have A8 := Aside0.mk A80
      clear A80
      by_cases c9 : (t444 != t445) = true
      · rw [if_pos c9] at H
        have c9b0 : (t444 != t445) = true := c9
        (try (have c9b1 : decide (t444 = t445) = false := by simpa using c9))
        (try (have c9b2 : (t444 == t445) = false := by simpa using c9))
        (try (have c9b3 : ¬ (t444 = t445) := by simpa using c9))
        clear c9
        (first | rw [c9b0] | (simp only [i64_w, i32_w]; rw [c9b0]) | skip)
        have H' := Aside0.mk H
        clear H
        go_wp2_with (first | ((with_reducible refine gate_callee (f := 13) rfl ?_); refine goesL_ (some 20) rfl rfl Try.func13 (by kernel_rfl) rfl #[.string t442, .string t443] rfl (by (try simp only [List.map_toArray, List.map_cons, List.map_nil]); first | done | rfl | (simp only [List.length_drop, List.length_take]; rfl)) ?_; (with_reducible refine (spec_RuleHas.calls k t442 t443 t445 _ A8.out).mono ?_); rintro e w10 ⟨rfl, hb⟩; refine ⟨_, rfl, ?_⟩; have n0_ := Aside0.mk (below_step (by repeat (first | (with_reducible first | exact HB.out | apply below_alloc | apply pw_below_drewN | apply below_drew1) | exact HB.out)) hb); clear HB; have HB := n0_; clear n0_; (try clear hb); (try clear hb2); (try clear hk); (try clear hi)))
        go_meet
        case rel => exact ⟨_, (true), (by first | rfl | (simp; done) | (simp only [i64_w, i32_w]; done) | (simp only [i64_w, i32_w]; rfl) | (simp [*]; done) | (simp [emp_bne, emp_beq]; done)), H', ⟨by first | omega | exact Nat.le_refl _⟩, ⟨by repeat (first | (with_reducible first | exact HB.out | apply below_alloc | apply pw_below_drewN | apply below_drew1) | exact HB.out)⟩⟩
      · rw [if_neg c9] at H
        have c9b0 : (t444 != t445) = false := by simpa using c9
        (try (have c9b1 : decide (t444 = t445) = true := by simpa using c9))
        (try (have c9b2 : (t444 == t445) = true := by simpa using c9))
        clear c9
        (first | rw [c9b0] | (simp only [i64_w, i32_w]; rw [c9b0]) | skip)
        replace H := Option.bind_eq_some_iff.mp H
        obtain ⟨t446, A110, H⟩ := H
        replace H : (if t446 = true then ((laws_lpEnds.f t442).bind fun t447 => (if t447 = true then (laws_FnRuleEnd.j0 k t442 t443 t444 true) else (laws_FnRuleEnd.j0 k t442 t443 t444 (decide ((t442.size : Int) ≥ 16))))) else (laws_FnRuleEnd.j0 k t442 t443 t444 true)) = some r := H
        have A11 := Aside0.mk A110
        clear A110
        by_cases c12 : t446 = true
        · subst c12
          have H1 : ((laws_lpEnds.f t442).bind fun t447 => (if t447 = true then (laws_FnRuleEnd.j0 k t442 t443 t444 true) else (laws_FnRuleEnd.j0 k t442 t443 t444 (decide ((t442.size : Int) ≥ 16))))) = some r := by rw [if_pos rfl] at H; exact H
          clear H
          have H := H1
          clear H1
          replace H := Option.bind_eq_some_iff.mp H
          obtain ⟨t447, A130, H⟩ := H
          replace H : (if t447 = true then (laws_FnRuleEnd.j0 k t442 t443 t444 true) else (laws_FnRuleEnd.j0 k t442 t443 t444 (decide ((t442.size : Int) ≥ 16)))) = some r := H
          have A13 := Aside0.mk A130
          clear A130
          by_cases c14 : t447 = true
          · subst c14
            have H1 : (laws_FnRuleEnd.j0 k t442 t443 t444 true) = some r := by rw [if_pos rfl] at H; exact H
            clear H
            have H := H1
            clear H1
            have H' := Aside0.mk H
            clear H
            go_wp2_with (first | ((with_reducible refine gate_callee (f := 13) rfl ?_); refine goesL_ (some 20) rfl rfl Try.func13 (by kernel_rfl) rfl #[.string t442, .string t443] rfl (by (try simp only [List.map_toArray, List.map_cons, List.map_nil]); first | done | rfl | (simp only [List.length_drop, List.length_take]; rfl)) ?_; (with_reducible refine (spec_RuleHas.calls k t442 t443 t445 _ A8.out).mono ?_); rintro e w15 ⟨rfl, hb⟩; refine ⟨_, rfl, ?_⟩; have n0_ := Aside0.mk (below_step (by repeat (first | (with_reducible first | exact HB.out | apply below_alloc | apply pw_below_drewN | apply below_drew1) | exact HB.out)) hb); clear HB; have HB := n0_; clear n0_; (try clear hb); (try clear hb2); (try clear hk); (try clear hi)) | (go_at_call 22; (with_reducible refine (spec_RuleOk.calls k t442 true _ A11.out).mono ?_); rintro e w' ⟨rfl, ⟨nd, rfl⟩⟩) | (go_at_call 23; (with_reducible refine (laws_lpEnds.calls t442 true _ A13.out).mono ?_); rintro e w' ⟨rfl, ⟨nd, rfl⟩⟩))
            go_meet
            case rel => exact ⟨_, (true), (by first | rfl | (simp; done) | (simp only [i64_w, i32_w]; done) | (simp only [i64_w, i32_w]; rfl) | (simp [*]; done) | (simp [emp_bne, emp_beq]; done)), H', ⟨by first | omega | exact Nat.le_refl _⟩, ⟨by repeat (first | (with_reducible first | exact HB.out | apply below_alloc | apply pw_below_drewN | apply below_drew1) | exact HB.out)⟩⟩
          · replace c14 := Bool.eq_false_iff.mpr c14
            subst c14
            have H1 : (laws_FnRuleEnd.j0 k t442 t443 t444 (decide ((t442.size : Int) ≥ 16))) = some r := by rw [if_neg (show ¬ (false = true) by decide)] at H; exact H
            clear H
            have H := H1
            clear H1
            have H' := Aside0.mk H
            clear H
            go_wp2_with (first | ((with_reducible refine gate_callee (f := 13) rfl ?_); refine goesL_ (some 20) rfl rfl Try.func13 (by kernel_rfl) rfl #[.string t442, .string t443] rfl (by (try simp only [List.map_toArray, List.map_cons, List.map_nil]); first | done | rfl | (simp only [List.length_drop, List.length_take]; rfl)) ?_; (with_reducible refine (spec_RuleHas.calls k t442 t443 t445 _ A8.out).mono ?_); rintro e w16 ⟨rfl, hb⟩; refine ⟨_, rfl, ?_⟩; have n0_ := Aside0.mk (below_step (by repeat (first | (with_reducible first | exact HB.out | apply below_alloc | apply pw_below_drewN | apply below_drew1) | exact HB.out)) hb); clear HB; have HB := n0_; clear n0_; (try clear hb); (try clear hb2); (try clear hk); (try clear hi)) | (go_at_call 22; (with_reducible refine (spec_RuleOk.calls k t442 true _ A11.out).mono ?_); rintro e w' ⟨rfl, ⟨nd, rfl⟩⟩) | (go_at_call 23; (with_reducible refine (laws_lpEnds.calls t442 false _ A13.out).mono ?_); rintro e w' ⟨rfl, ⟨nd, rfl⟩⟩))
            go_meet
            case rel => exact ⟨_, (decide ((t442.size : Int) ≥ 16)), (by first | rfl | (simp; done) | (simp only [i64_w, i32_w]; done) | (simp only [i64_w, i32_w]; rfl) | (simp [*]; done) | (simp [emp_bne, emp_beq]; done)), H', ⟨by first | omega | exact Nat.le_refl _⟩, ⟨by repeat (first | (with_reducible first | exact HB.out | apply below_alloc | apply pw_below_drewN | apply below_drew1) | exact HB.out)⟩⟩
        · replace c12 := Bool.eq_false_iff.mpr c12
          subst c12
          have H1 : (laws_FnRuleEnd.j0 k t442 t443 t444 true) = some r := by rw [if_neg (show ¬ (false = true) by decide)] at H; exact H
          clear H
          have H := H1
          clear H1
          have H' := Aside0.mk H
          clear H
          go_wp2_with (first | ((with_reducible refine gate_callee (f := 13) rfl ?_); refine goesL_ (some 20) rfl rfl Try.func13 (by kernel_rfl) rfl #[.string t442, .string t443] rfl (by (try simp only [List.map_toArray, List.map_cons, List.map_nil]); first | done | rfl | (simp only [List.length_drop, List.length_take]; rfl)) ?_; (with_reducible refine (spec_RuleHas.calls k t442 t443 t445 _ A8.out).mono ?_); rintro e w17 ⟨rfl, hb⟩; refine ⟨_, rfl, ?_⟩; have n0_ := Aside0.mk (below_step (by repeat (first | (with_reducible first | exact HB.out | apply below_alloc | apply pw_below_drewN | apply below_drew1) | exact HB.out)) hb); clear HB; have HB := n0_; clear n0_; (try clear hb); (try clear hb2); (try clear hk); (try clear hi)) | (go_at_call 22; (with_reducible refine (spec_RuleOk.calls k t442 false _ A11.out).mono ?_); rintro e w' ⟨rfl, ⟨nd, rfl⟩⟩))
          go_meet
          case rel => exact ⟨_, (true), (by first | rfl | (simp; done) | (simp only [i64_w, i32_w]; done) | (simp only [i64_w, i32_w]; rfl) | (simp [*]; done) | (simp [emp_bne, emp_beq]; done)), H', ⟨by first | omega | exact Nat.le_refl _⟩, ⟨by repeat (first | (with_reducible first | exact HB.out | apply below_alloc | apply pw_below_drewN | apply below_drew1) | exact HB.out)⟩⟩
    case rest =>
      clear HC5
      try clear c1
      try clear c2
      try clear c2b0
      try clear c2b1
      try clear p2
      try clear c7
      try clear c9
      try clear c9b0
      try clear c9b1
      try clear c9b2
      try clear c12
      try clear c13
      try clear c14
      obtain ⟨kq, x35_4, rfl, HA, HJ4, HB⟩ := hcut
      cases kq with
      | zero => exact absurd HA.out (by simp [laws_FnRuleEnd.j0])
      | succ kj4 =>
        have H := HA.out
        clear HA
        simp only [laws_FnRuleEnd.j0] at H
        by_cases c18 : x35_4 = true
        · subst c18
          have H1 : ((spec_RuleHas.f kj4 t442 t443).bind fun t448 => (some (t444 == t448))) = some r := by rw [if_pos rfl] at H; exact H
          clear H
          have H := H1
          clear H1
          replace H := Option.bind_eq_some_iff.mp H
          obtain ⟨t448, A190, H⟩ := H
          replace H : (some (t444 == t448)) = some r := H
          have A19 := Aside0.mk A190
          clear A190
          obtain rfl := Option.some.inj H
          go_wp2_with (first | ((with_reducible refine gate_callee (f := 13) rfl ?_); refine goesL_ (some 39) rfl rfl Try.func13 (by kernel_rfl) rfl #[.string t442, .string t443] rfl (by (try simp only [List.map_toArray, List.map_cons, List.map_nil]); first | done | rfl | (simp only [List.length_drop, List.length_take]; rfl)) ?_; (with_reducible refine (spec_RuleHas.calls kj4 t442 t443 t448 _ A19.out).mono ?_); rintro e w20 ⟨rfl, hb⟩; refine ⟨_, rfl, ?_⟩; have n0_ := Aside0.mk (below_step (by repeat (first | (with_reducible first | exact HB.out | apply below_alloc | apply pw_below_drewN | apply below_drew1) | exact HB.out)) hb); clear HB; have HB := n0_; clear n0_; (try clear hb); (try clear hb2); (try clear hk); (try clear hi)))
          go_ret
          exact ⟨by first | rfl | (simp [errW_none, errW_some] <;> rfl) | (simp [*, errW_none, errW_some] <;> rfl), by repeat (first | (with_reducible first | exact HB.out | apply below_alloc | apply pw_below_drewN | apply below_drew1) | exact HB.out)⟩
        · replace c18 := Bool.eq_false_iff.mpr c18
          subst c18
          have H1 : (if t442.size + 1 ≤ 9223372036854775807 then ((impl_RuleHas.f kj4 (t442 ++ (⟨#[36]⟩ : ByteArray)) t443).bind fun t449 => (if t449 = true then (some t444) else (some true))) else (none)) = some r := by rw [if_neg (show ¬ (false = true) by decide)] at H; exact H
          clear H
          have H := H1
          clear H1
          by_cases c21 : t442.size + 1 ≤ 9223372036854775807
          · rw [if_pos c21] at H
            have c21b0 := eq_true c21
            have c21b1 : decide (t442.size + 1 ≤ 9223372036854775807) = true := decide_eq_true c21
            try have c21b2 : (9223372036854775807 < t442.size + 1) = False := eq_false (Nat.not_lt.2 c21)
            replace H := Option.bind_eq_some_iff.mp H
            obtain ⟨t449, A220, H⟩ := H
            replace H : (if t449 = true then (some t444) else (some true)) = some r := H
            have A22 := Aside0.mk A220
            clear A220
            by_cases c23 : t449 = true
            · subst c23
              have H1 : (some t444) = some r := by rw [if_pos rfl] at H; exact H
              clear H
              have H := H1
              clear H1
              obtain rfl := Option.some.inj H
              go_wp2_with (first | ((with_reducible refine gate_callee (f := 14) rfl ?_); refine goesL_ (some 44) rfl rfl Try.func14 (by kernel_rfl) rfl #[.string (t442 ++ (⟨#[36]⟩ : ByteArray)), .string t443] rfl (by (try simp only [List.map_toArray, List.map_cons, List.map_nil]); first | done | rfl | (simp only [List.length_drop, List.length_take]; rfl)) ?_; (with_reducible refine (impl_RuleHas.calls kj4 (t442 ++ (⟨#[36]⟩ : ByteArray)) t443 true _ A22.out).mono ?_); rintro e w24 ⟨rfl, hb⟩; refine ⟨_, rfl, ?_⟩; have n0_ := Aside0.mk (below_step (by repeat (first | (with_reducible first | exact HB.out | apply below_alloc | apply pw_below_drewN | apply below_drew1) | exact HB.out)) hb); clear HB; have HB := n0_; clear n0_; (try clear hb); (try clear hb2); (try clear hk); (try clear hi)))
              go_ret
              exact ⟨by first | rfl | (simp [errW_none, errW_some] <;> rfl) | (simp [*, errW_none, errW_some] <;> rfl), by repeat (first | (with_reducible first | exact HB.out | apply below_alloc | apply pw_below_drewN | apply below_drew1) | exact HB.out)⟩
            · replace c23 := Bool.eq_false_iff.mpr c23
              subst c23
              have H1 : (some true) = some r := by rw [if_neg (show ¬ (false = true) by decide)] at H; exact H
              clear H
              have H := H1
              clear H1
              obtain rfl := Option.some.inj H
              go_wp2_with (first | ((with_reducible refine gate_callee (f := 14) rfl ?_); refine goesL_ (some 44) rfl rfl Try.func14 (by kernel_rfl) rfl #[.string (t442 ++ (⟨#[36]⟩ : ByteArray)), .string t443] rfl (by (try simp only [List.map_toArray, List.map_cons, List.map_nil]); first | done | rfl | (simp only [List.length_drop, List.length_take]; rfl)) ?_; (with_reducible refine (impl_RuleHas.calls kj4 (t442 ++ (⟨#[36]⟩ : ByteArray)) t443 false _ A22.out).mono ?_); rintro e w25 ⟨rfl, hb⟩; refine ⟨_, rfl, ?_⟩; have n0_ := Aside0.mk (below_step (by repeat (first | (with_reducible first | exact HB.out | apply below_alloc | apply pw_below_drewN | apply below_drew1) | exact HB.out)) hb); clear HB; have HB := n0_; clear n0_; (try clear hb); (try clear hb2); (try clear hk); (try clear hi)))
              go_ret
              exact ⟨by first | rfl | (simp [errW_none, errW_some] <;> rfl) | (simp [*, errW_none, errW_some] <;> rfl), by repeat (first | (with_reducible first | exact HB.out | apply below_alloc | apply pw_below_drewN | apply below_drew1) | exact HB.out)⟩
          · rw [if_neg c21] at H
            exact absurd H (by simp)

/-- THE ONE PURE STATEMENT of laws_FnRuleEnd: yours. -/
def laws_FnRuleEnd.Pure : Prop := ∀ (l0 : List Int), l0.length ≤ maxLen → l0.length * 1 ≤ 140737488351232 → (∀ x ∈ l0, (Lit.int .u8 x).wf = true) → ∃ k, laws_FnRuleEnd.f k l0 = some true
theorem laws_FnRuleEnd.walk (P : laws_FnRuleEnd.Pure) (a0 : Option Addr) (len0 cap0 : Nat) (z0 : List Int) (w : World) (w0 : (a0 = none ∧ len0 = 0 ∧ cap0 = 0 ∧ z0 = []) ∨ ∃ x, a0 = some x ∧ len0 ≤ cap0 ∧ cap0 ≤ maxLen ∧ z0.length = cap0 ∧ (∀ i, i < z0.length → w.cell? (x.add i) = some (.int .u8 (z0.getD i 0))) ∧ ∀ n ∈ z0, (Lit.int .u8 n).wf = true) (y0 : len0 * 1 ≤ 140737488351232) :
    Calls Try.prog 7 #[.slice a0 len0 cap0] w fun e w' => e = .returned (.bool true) ∧ Below w.heap.size w w' := by
  obtain ⟨l0, rfl, hr0, hm0, hw0, hc0⟩ := ReadsInt.ofRowC w0
  obtain ⟨k, h⟩ := P l0 hm0 y0 hw0
  refine (laws_FnRuleEnd.calls k _ _ l0 true w (Kd.C_of_reads (d := (0 : Int)) (h1 := fun _ => rfl) hr0) hc0 h).mono ?_
  rintro e w' ⟨rfl, hd⟩
  exact ⟨rfl, hd⟩

end Go.Proofs.Ytmkncihmgbjgnaa.P
