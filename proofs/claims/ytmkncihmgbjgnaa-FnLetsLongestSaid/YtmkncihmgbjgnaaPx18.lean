-- Written by a program of this session (patch_print.py over the kit's print; given texts in wip/given).
import Derived.Test.YtmkncihmgbjgnaaPx0
import Derived.Test.YtmkncihmgbjgnaaPx5
import Derived.Test.YtmkncihmgbjgnaaPx13
import Derived.Test.YtmkncihmgbjgnaaPx15
namespace Go.Proofs.Ytmkncihmgbjgnaa.P
open Go.RowKit Go.Proofs.YtmkncihmgbjgnaaW.PrintWords Go.Proofs.YtmkncihmgbjgnaaW.PrintLast Go.Proofs.YtmkncihmgbjgnaaW.PrintMore
attribute [local go_sem] max2_int min2_int max_two min_two max_three min_three max_four min_four   -- for this text's walks alone
set_option linter.unusedVariables false
set_option linter.unusedSimpArgs false
set_option maxHeartbeats 8000000
set_option maxRecDepth 100000

/-! ### laws_FnLetsLongest: function 11 -/
mutual
def laws_FnLetsLongest.l0 : Nat → List (S38) → ByteArray → Bool → Int → Int → Option (Bool)
 | 0, _, _, _, _, _ => none
 | k + 1, x3, x4, x5, x6, x7 => if x7 < (x3.length : Int) then (if 0 ≤ x7 then ((impl_RuleHas.f k ((rd_T38 x3 x7).f1) x4).bind fun t390 => (if t390 = true then (laws_FnLetsLongest.l0 k x3 x4 x5 (mx x6 (((rd_T38 x3 x7).f1).size : Int)) (wrap64 (x7 + 1))) else (laws_FnLetsLongest.l0 k x3 x4 x5 x6 (wrap64 (x7 + 1))))) else (none)) else (laws_FnLetsLongest.l1 k x3 x4 x5 x6 (x6 == 0) 0)
def laws_FnLetsLongest.l1 : Nat → List (S38) → ByteArray → Bool → Int → Bool → Int → Option (Bool)
 | 0, _, _, _, _, _, _ => none
 | k + 1, x3, x4, x5, x6, x8, x9 => if x9 < (x3.length : Int) then (if x8 = true then (laws_FnLetsLongest.l1 k x3 x4 x5 x6 true (wrap64 (x9 + 1))) else (if 0 ≤ x9 then (if (rd_T38 x3 x9).f0 = true then (if (((rd_T38 x3 x9).f1).size : Int) = x6 then ((impl_RuleHas.f k ((rd_T38 x3 x9).f1) x4).bind fun t395 => (laws_FnLetsLongest.l1 k x3 x4 x5 x6 t395 (wrap64 (x9 + 1)))) else (laws_FnLetsLongest.l1 k x3 x4 x5 x6 false (wrap64 (x9 + 1)))) else (laws_FnLetsLongest.l1 k x3 x4 x5 x6 false (wrap64 (x9 + 1)))) else (none))) else (some (x5 == x8))
end
def laws_FnLetsLongest.f (k : Nat) (l0 : List Int) : Option (Bool) := if (l0.length : Int) > 1048576 then (some true) else ((spec_DrawRuleLets.f k l0).bind fun bt383 => ((impl_RuleLets.f k bt383.1 bt383.2).bind fun t387 => ((spec_RuleLets.f k bt383.1 bt383.2).bind fun t388 => (if (t387 != t388) = true then (some false) else (laws_FnLetsLongest.l0 k bt383.1 bt383.2 t387 0 0)))))
theorem laws_FnLetsLongest.mono_l : ∀ k, (∀ y0 y1 y2 y3 y4, LeO (laws_FnLetsLongest.l0 k y0 y1 y2 y3 y4) (laws_FnLetsLongest.l0 (k + 1) y0 y1 y2 y3 y4)) ∧ (∀ y0 y1 y2 y3 y4 y5, LeO (laws_FnLetsLongest.l1 k y0 y1 y2 y3 y4 y5) (laws_FnLetsLongest.l1 (k + 1) y0 y1 y2 y3 y4 y5))
 | 0 => ⟨fun _ _ _ _ _ r h => by simp [laws_FnLetsLongest.l0] at h, fun _ _ _ _ _ _ r h => by simp [laws_FnLetsLongest.l1] at h⟩
 | k + 1 => by
  obtain ⟨ih0, ih1⟩ := laws_FnLetsLongest.mono_l k
  refine ⟨?_, ?_⟩
  ·intro y0 y1 y2 y3 y4
   unfold laws_FnLetsLongest.l0
   repeat' first
   | (with_reducible exact ih0 _ _ _ _ _)
   | (with_reducible exact ih1 _ _ _ _ _ _)
   | (with_reducible exact impl_RuleHas.mono _ _ _)
   | (with_reducible exact impl_RuleLets.mono _ _ _)
   | (with_reducible exact spec_DrawRuleLets.mono _ _)
   | (with_reducible exact spec_RuleLets.mono _ _ _)
   | (with_reducible exact LeO.refl _)
   | (with_reducible exact LeO.none _)
   | (with_reducible refine LeO.ite ?_ ?_)
   | (with_reducible refine LeO.bind ?_ (fun _ => ?_))
   | exact ih0 _ _ _ _ _
   | exact ih1 _ _ _ _ _ _
   | exact impl_RuleHas.mono _ _ _
   | exact impl_RuleLets.mono _ _ _
   | exact spec_DrawRuleLets.mono _ _
   | exact spec_RuleLets.mono _ _ _
   | exact LeO.none _
   | refine LeO.ite ?_ ?_
   | refine LeO.bind ?_ (fun _ => ?_)
  ·intro y0 y1 y2 y3 y4 y5
   unfold laws_FnLetsLongest.l1
   repeat' first
   | (with_reducible exact ih0 _ _ _ _ _)
   | (with_reducible exact ih1 _ _ _ _ _ _)
   | (with_reducible exact impl_RuleHas.mono _ _ _)
   | (with_reducible exact impl_RuleLets.mono _ _ _)
   | (with_reducible exact spec_DrawRuleLets.mono _ _)
   | (with_reducible exact spec_RuleLets.mono _ _ _)
   | (with_reducible exact LeO.refl _)
   | (with_reducible exact LeO.none _)
   | (with_reducible refine LeO.ite ?_ ?_)
   | (with_reducible refine LeO.bind ?_ (fun _ => ?_))
   | exact ih0 _ _ _ _ _
   | exact ih1 _ _ _ _ _ _
   | exact impl_RuleHas.mono _ _ _
   | exact impl_RuleLets.mono _ _ _
   | exact spec_DrawRuleLets.mono _ _
   | exact spec_RuleLets.mono _ _ _
   | exact LeO.none _
   | refine LeO.ite ?_ ?_
   | refine LeO.bind ?_ (fun _ => ?_)
theorem laws_FnLetsLongest.mono : ∀ a0 k, LeO (laws_FnLetsLongest.f k a0) (laws_FnLetsLongest.f (k + 1) a0) := by
 intro a0 k
 obtain ⟨ih0, ih1⟩ := laws_FnLetsLongest.mono_l k
 unfold laws_FnLetsLongest.f
 repeat' first
   | (with_reducible exact ih0 _ _ _ _ _)
   | (with_reducible exact ih1 _ _ _ _ _ _)
   | (with_reducible exact impl_RuleHas.mono _ _ _)
   | (with_reducible exact impl_RuleLets.mono _ _ _)
   | (with_reducible exact spec_DrawRuleLets.mono _ _)
   | (with_reducible exact spec_RuleLets.mono _ _ _)
   | (with_reducible exact LeO.refl _)
   | (with_reducible exact LeO.none _)
   | (with_reducible refine LeO.ite ?_ ?_)
   | (with_reducible refine LeO.bind ?_ (fun _ => ?_))
   | exact ih0 _ _ _ _ _
   | exact ih1 _ _ _ _ _ _
   | exact impl_RuleHas.mono _ _ _
   | exact impl_RuleLets.mono _ _ _
   | exact spec_DrawRuleLets.mono _ _
   | exact spec_RuleLets.mono _ _ _
   | exact LeO.none _
   | refine LeO.ite ?_ ?_
   | refine LeO.bind ?_ (fun _ => ?_)
theorem laws_FnLetsLongest.calls (k : Nat) (A0 : Option Addr) (c0 : Nat) (l0 : List Int) (r : Bool) (w : World) (hr0 : Kd.C (Kd.int .u8) w A0 l0.length l0) (hc0 : l0.length ≤ c0) (h : laws_FnLetsLongest.f k l0 = some r) :
  Calls Try.prog 11 #[.slice A0 l0.length c0] w fun e w' => e = .returned (.bool r) ∧ Below w.heap.size w w' := by
 have HR0 := Aside0.mk hr0
 have HC0 := Aside0.mk hc0
 clear hr0 hc0
 have HB := Aside0.mk (Below.refl w.heap.size w)
 have H : (if (l0.length : Int) > 1048576 then (some true) else ((spec_DrawRuleLets.f k l0).bind fun bt383 => ((impl_RuleLets.f k bt383.1 bt383.2).bind fun t387 => ((spec_RuleLets.f k bt383.1 bt383.2).bind fun t388 => (if (t387 != t388) = true then (some false) else (laws_FnLetsLongest.l0 k bt383.1 bt383.2 t387 0 0)))))) = some r := h
 clear h
 by_cases c2 : (l0.length : Int) > 1048576
 ·rw [if_pos c2] at H
  have c2b0 : decide (1048576 < (l0.length : Int)) = true := decide_eq_true c2
  have c2b1 : decide (1048576 < l0.length) = true := decide_eq_true (by omega)
  clear c2
  obtain rfl := Option.some.inj H
  go_enter Try.func11, Try.ntmps11
  go_wp2
  go_ret
  exact ⟨by first | rfl | (simp <;> rfl) | (simp [*] <;> rfl), by repeat (first | (with_reducible first | exact HB.out | apply below_alloc | apply pw_below_drewN | apply below_drew1) | exact HB.out)⟩
 ·rw [if_neg c2] at H
  have c2b0 : decide (1048576 < (l0.length : Int)) = false := decide_eq_false c2
  have c2b1 : decide (1048576 < l0.length) = false := decide_eq_false (by omega)
  clear c2
  replace H := Option.bind_eq_some_iff.mp H
  obtain ⟨⟨t383, t384⟩, A30, H⟩ := H
  replace H : ((impl_RuleLets.f k t383 t384).bind fun t387 => ((spec_RuleLets.f k t383 t384).bind fun t388 => (if (t387 != t388) = true then (some false) else (laws_FnLetsLongest.l0 k t383 t384 t387 0 0)))) = some r := H
  have A3 := Aside0.mk A30
  clear A30
  replace H := Option.bind_eq_some_iff.mp H
  obtain ⟨t387, A40, H⟩ := H
  replace H : ((spec_RuleLets.f k t383 t384).bind fun t388 => (if (t387 != t388) = true then (some false) else (laws_FnLetsLongest.l0 k t383 t384 t387 0 0))) = some r := H
  have A4 := Aside0.mk A40
  clear A40
  replace H := Option.bind_eq_some_iff.mp H
  obtain ⟨t388, A50, H⟩ := H
  replace H : (if (t387 != t388) = true then (some false) else (laws_FnLetsLongest.l0 k t383 t384 t387 0 0)) = some r := H
  have A5 := Aside0.mk A50
  clear A50
  by_cases c6 : (t387 != t388) = true
  ·rw [if_pos c6] at H
   have c6b0 : (t387 != t388) = true := c6
   (try (have c6b1 : decide (t387 = t388) = false := by simpa using c6))
   (try (have c6b2 : (t387 == t388) = false := by simpa using c6))
   (try (have c6b3 : ¬ (t387 = t388) := by simpa using c6))
   clear c6
   obtain rfl := Option.some.inj H
   go_enter Try.func11, Try.ntmps11
   go_wp2_with (first | ((with_reducible refine gate_callee (f := 25) rfl ?_); refine goesL_ (some 15) rfl rfl Try.func25 (by kernel_rfl) rfl #[.slice A0 l0.length c0] rfl (by (try simp only [List.map_toArray, List.map_cons, List.map_nil]); first | done | rfl | (simp only [List.length_drop, List.length_take]; rfl)) ?_; (with_reducible refine (spec_DrawRuleLets.calls k _ _ l0 t383 t384 _ ?side1 ?side2 A3.out).mono ?_); (case side1 => repeat (first | exact HR0.out | (with_reducible refine Kd.C_alloc ?_ _) | (with_reducible refine Kd.C_drewN ?_ _) | (with_reducible refine Kd.C_drew ?_))); (case side2 => exact HC0.out); rintro e w7 ⟨v385, rfl, ho0, hb⟩; refine ⟨_, rfl, ?_⟩; have n0_ := Aside0.mk (Kd.R_lower ho0 (below_size (by repeat (first | (with_reducible first | exact HB.out | apply below_alloc | apply pw_below_drewN | apply below_drew1) | exact HB.out)))); have n1_ := Aside0.mk (below_step (by repeat (first | (with_reducible first | exact HB.out | apply below_alloc | apply pw_below_drewN | apply below_drew1) | exact HB.out)) hb); clear HB; have HO386 := n0_; have HB := n1_; clear n0_ n1_; (try clear hb); (try clear hb2); (try clear hk); (try clear hi); (try clear ho0); obtain ⟨Ao8, co8, eo8⟩ := Kd.R_slice HO386.out; subst eo8) | ((with_reducible refine gate_callee (f := 18) rfl ?_); refine goesL_ (some 20) rfl rfl Try.func18 (by kernel_rfl) rfl #[.slice Ao8 t383.length co8, .string t384] rfl (by (try simp only [List.map_toArray, List.map_cons, List.map_nil]); first | done | rfl | (simp only [List.length_drop, List.length_take]; rfl)) ?_; (with_reducible refine (impl_RuleLets.calls k _ _ t383 t384 t387 _ ?side1 ?side2 A4.out).mono ?_); (case side1 => repeat (first | exact (Kd.R_reads' HO386.out).2.2 | (with_reducible refine Kd.C_alloc ?_ _) | (with_reducible refine Kd.C_drewN ?_ _) | (with_reducible refine Kd.C_drew ?_))); (case side2 => exact (Kd.R_reads' HO386.out).2.1); rintro e w9 ⟨rfl, hb⟩; refine ⟨_, rfl, ?_⟩; have n0_ := Aside0.mk (Kd.R_below (by (with_reducible repeat (first | apply Kd.R_alloc | apply Kd.R_drewN | apply Kd.R_drew)); exact HO386.out) hb); have n1_ := Aside0.mk (below_step (by repeat (first | (with_reducible first | exact HB.out | apply below_alloc | apply pw_below_drewN | apply below_drew1) | exact HB.out)) hb); clear HO386; clear HB; have HO386 := n0_; have HB := n1_; clear n0_ n1_; (try clear hb); (try clear hb2); (try clear hk); (try clear hi)) | ((with_reducible refine gate_callee (f := 16) rfl ?_); refine goesL_ (some 24) rfl rfl Try.func16 (by kernel_rfl) rfl #[.slice Ao8 t383.length co8, .string t384] rfl (by (try simp only [List.map_toArray, List.map_cons, List.map_nil]); first | done | rfl | (simp only [List.length_drop, List.length_take]; rfl)) ?_; (with_reducible refine (spec_RuleLets.calls k _ _ t383 t384 t388 _ ?side1 ?side2 A5.out).mono ?_); (case side1 => repeat (first | exact (Kd.R_reads' HO386.out).2.2 | (with_reducible refine Kd.C_alloc ?_ _) | (with_reducible refine Kd.C_drewN ?_ _) | (with_reducible refine Kd.C_drew ?_))); (case side2 => exact (Kd.R_reads' HO386.out).2.1); rintro e w10 ⟨rfl, hb⟩; refine ⟨_, rfl, ?_⟩; have n0_ := Aside0.mk (Kd.R_below (by (with_reducible repeat (first | apply Kd.R_alloc | apply Kd.R_drewN | apply Kd.R_drew)); exact HO386.out) hb); have n1_ := Aside0.mk (below_step (by repeat (first | (with_reducible first | exact HB.out | apply below_alloc | apply pw_below_drewN | apply below_drew1) | exact HB.out)) hb); clear HO386; clear HB; have HO386 := n0_; have HB := n1_; clear n0_ n1_; (try clear hb); (try clear hb2); (try clear hk); (try clear hi)))
   go_ret
   exact ⟨by first | rfl | (simp <;> rfl) | (simp [*] <;> rfl), by repeat (first | (with_reducible first | exact HB.out | apply below_alloc | apply pw_below_drewN | apply below_drew1) | exact HB.out)⟩
  ·rw [if_neg c6] at H
   have c6b0 : (t387 != t388) = false := by simpa using c6
   (try (have c6b1 : decide (t387 = t388) = true := by simpa using c6))
   (try (have c6b2 : (t387 == t388) = true := by simpa using c6))
   clear c6
   have H' := Aside0.mk H
   clear H
   go_enter Try.func11, Try.ntmps11
   go_wp2_with (first | ((with_reducible refine gate_callee (f := 25) rfl ?_); refine goesL_ (some 15) rfl rfl Try.func25 (by kernel_rfl) rfl #[.slice A0 l0.length c0] rfl (by (try simp only [List.map_toArray, List.map_cons, List.map_nil]); first | done | rfl | (simp only [List.length_drop, List.length_take]; rfl)) ?_; (with_reducible refine (spec_DrawRuleLets.calls k _ _ l0 t383 t384 _ ?side1 ?side2 A3.out).mono ?_); (case side1 => repeat (first | exact HR0.out | (with_reducible refine Kd.C_alloc ?_ _) | (with_reducible refine Kd.C_drewN ?_ _) | (with_reducible refine Kd.C_drew ?_))); (case side2 => exact HC0.out); rintro e w11 ⟨v385, rfl, ho0, hb⟩; refine ⟨_, rfl, ?_⟩; have n0_ := Aside0.mk (Kd.R_lower ho0 (below_size (by repeat (first | (with_reducible first | exact HB.out | apply below_alloc | apply pw_below_drewN | apply below_drew1) | exact HB.out)))); have n1_ := Aside0.mk (below_step (by repeat (first | (with_reducible first | exact HB.out | apply below_alloc | apply pw_below_drewN | apply below_drew1) | exact HB.out)) hb); clear HB; have HO386 := n0_; have HB := n1_; clear n0_ n1_; (try clear hb); (try clear hb2); (try clear hk); (try clear hi); (try clear ho0); obtain ⟨Ao12, co12, eo12⟩ := Kd.R_slice HO386.out; subst eo12) | ((with_reducible refine gate_callee (f := 18) rfl ?_); refine goesL_ (some 20) rfl rfl Try.func18 (by kernel_rfl) rfl #[.slice Ao12 t383.length co12, .string t384] rfl (by (try simp only [List.map_toArray, List.map_cons, List.map_nil]); first | done | rfl | (simp only [List.length_drop, List.length_take]; rfl)) ?_; (with_reducible refine (impl_RuleLets.calls k _ _ t383 t384 t387 _ ?side1 ?side2 A4.out).mono ?_); (case side1 => repeat (first | exact (Kd.R_reads' HO386.out).2.2 | (with_reducible refine Kd.C_alloc ?_ _) | (with_reducible refine Kd.C_drewN ?_ _) | (with_reducible refine Kd.C_drew ?_))); (case side2 => exact (Kd.R_reads' HO386.out).2.1); rintro e w13 ⟨rfl, hb⟩; refine ⟨_, rfl, ?_⟩; have n0_ := Aside0.mk (Kd.R_below (by (with_reducible repeat (first | apply Kd.R_alloc | apply Kd.R_drewN | apply Kd.R_drew)); exact HO386.out) hb); have n1_ := Aside0.mk (below_step (by repeat (first | (with_reducible first | exact HB.out | apply below_alloc | apply pw_below_drewN | apply below_drew1) | exact HB.out)) hb); clear HO386; clear HB; have HO386 := n0_; have HB := n1_; clear n0_ n1_; (try clear hb); (try clear hb2); (try clear hk); (try clear hi)) | ((with_reducible refine gate_callee (f := 16) rfl ?_); refine goesL_ (some 24) rfl rfl Try.func16 (by kernel_rfl) rfl #[.slice Ao12 t383.length co12, .string t384] rfl (by (try simp only [List.map_toArray, List.map_cons, List.map_nil]); first | done | rfl | (simp only [List.length_drop, List.length_take]; rfl)) ?_; (with_reducible refine (spec_RuleLets.calls k _ _ t383 t384 t388 _ ?side1 ?side2 A5.out).mono ?_); (case side1 => repeat (first | exact (Kd.R_reads' HO386.out).2.2 | (with_reducible refine Kd.C_alloc ?_ _) | (with_reducible refine Kd.C_drewN ?_ _) | (with_reducible refine Kd.C_drew ?_))); (case side2 => exact (Kd.R_reads' HO386.out).2.1); rintro e w14 ⟨rfl, hb⟩; refine ⟨_, rfl, ?_⟩; have n0_ := Aside0.mk (Kd.R_below (by (with_reducible repeat (first | apply Kd.R_alloc | apply Kd.R_drewN | apply Kd.R_drew)); exact HO386.out) hb); have n1_ := Aside0.mk (below_step (by repeat (first | (with_reducible first | exact HB.out | apply below_alloc | apply pw_below_drewN | apply below_drew1) | exact HB.out)) hb); clear HO386; clear HB; have HO386 := n0_; have HB := n1_; clear n0_ n1_; (try clear hb); (try clear hb2); (try clear hk); (try clear hi)))
   go_loopg [6, 7] k (fun kq v6 v7 w' => ∃ (x6_1 : Int) (x7_1 : Int), v6 = .int .i64 x6_1 ∧ v7 = .int .i64 x7_1 ∧ Aside0 (laws_FnLetsLongest.l0 kq t383 t384 t387 x6_1 x7_1 = some r) ∧ Aside0 (kq ≤ k) ∧ Aside0 (Kd.R k38 38 w' w.heap.size (fun _ => True) (.slice Ao12 t383.length co12) t383) ∧ Aside0 (Below w.heap.size w w'))
   case atStart => exact ⟨(0), (0), (by first | rfl | (simp; done) | (simp only [i64_w, i32_w]; done) | (simp only [i64_w, i32_w]; rfl) | (simp [*]; done) | (simp [emp_bne, emp_beq]; done)), (by first | rfl | (simp; done) | (simp only [i64_w, i32_w]; done) | (simp only [i64_w, i32_w]; rfl) | (simp [*]; done) | (simp [emp_bne, emp_beq]; done)), H', ⟨Nat.le_refl _⟩, ⟨by (with_reducible repeat (first | apply Kd.R_alloc | apply Kd.R_drewN | apply Kd.R_drew)); exact HO386.out⟩, ⟨by repeat (first | (with_reducible first | exact HB.out | apply below_alloc | apply pw_below_drewN | apply below_drew1) | exact HB.out)⟩⟩
   case round =>
    clear H'
    try clear c1
    try clear c2
    try clear c2b0
    try clear c2b1
    try clear p2
    try clear c6
    try clear c6b0
    try clear c6b1
    try clear c6b2
    try clear c11
    obtain ⟨x6_1, x7_1, rfl, rfl, HA, HK1, HO_3, HB⟩ := hrel
    cases gk with
    | zero => exact absurd HA.out (by simp [laws_FnLetsLongest.l0])
    | succ k1 =>
     have H := HA.out
     clear HA
     simp only [laws_FnLetsLongest.l0] at H
     by_cases c15 : x7_1 < (t383.length : Int)
     ·rw [if_pos c15] at H
      have c15b0 : decide (x7_1 < (t383.length : Int)) = true := decide_eq_true c15
      clear c15
      by_cases c16 : 0 ≤ x7_1
      ·rw [if_pos c16] at H
       have c16b0 : decide (0 ≤ x7_1) = true := decide_eq_true c16
       clear c16
       replace H := Option.bind_eq_some_iff.mp H
       obtain ⟨t390, A170, H⟩ := H
       replace H : (if t390 = true then (laws_FnLetsLongest.l0 k1 t383 t384 t387 (mx x6_1 (((rd_T38 t383 x7_1).f1).size : Int)) (wrap64 (x7_1 + 1))) else (laws_FnLetsLongest.l0 k1 t383 t384 t387 x6_1 (wrap64 (x7_1 + 1)))) = some r := H
       have A17 := Aside0.mk A170
       clear A170
       by_cases c18 : t390 = true
       ·subst c18
        have H1 : (laws_FnLetsLongest.l0 k1 t383 t384 t387 (mx x6_1 (((rd_T38 t383 x7_1).f1).size : Int)) (wrap64 (x7_1 + 1))) = some r := by rw [if_pos rfl] at H; exact H
        clear H
        have H := H1
        clear H1
        obtain ⟨ji19, hji19⟩ : ∃ j_ : Int, (mx x6_1 (((rd_T38 t383 x7_1).f1).size : Int)) = j_ := ⟨_, rfl⟩
        replace H : (laws_FnLetsLongest.l0 k1 t383 t384 t387 ji19 (wrap64 (x7_1 + 1))) = some r := by first | (rw [hji19] at H; exact H) | (simp only [hji19] at H ⊢; exact H)
        (try rw [hji19] at A17)
        have hji19_ : (if x6_1 < (((rd_T38 t383 x7_1).f1).size : Int) then (((rd_T38 t383 x7_1).f1).size : Int) else x6_1) = ji19 := hji19
        have H' := Aside0.mk H
        clear H
        have p389 : 0 ≤ (x7_1 : Int) := of_decide_eq_true (by first | (with_reducible assumption) | assumption)
        have q389 : x7_1 < (t383.length : Int) := of_decide_eq_true (by first | (with_reducible assumption) | assumption)
        obtain ⟨ad389, e389, hx389_0, hx389_1⟩ := at_T38 (Kd.R_reads' HO_3.out).2.2 x7_1 p389 q389
        cases e389
        replace p389 := eq_true p389
        replace q389 := eq_true q389
        go_wp2_with (first | ((with_reducible refine gate_callee (f := 14) rfl ?_); refine goesL_ (some 38) rfl rfl Try.func14 (by kernel_rfl) rfl #[.string ((rd_T38 t383 x7_1).f1), .string t384] rfl (by (try simp only [List.map_toArray, List.map_cons, List.map_nil]); first | done | rfl | (simp only [List.length_drop, List.length_take]; rfl)) ?_; (with_reducible refine (impl_RuleHas.calls k1 ((rd_T38 t383 x7_1).f1) t384 true _ A17.out).mono ?_); rintro e w20 ⟨rfl, hb⟩; refine ⟨_, rfl, ?_⟩; have n0_ := Aside0.mk (Kd.R_below (by (with_reducible repeat (first | apply Kd.R_alloc | apply Kd.R_drewN | apply Kd.R_drew)); exact HO_3.out) hb); have n1_ := Aside0.mk (below_step (by repeat (first | (with_reducible first | exact HB.out | apply below_alloc | apply pw_below_drewN | apply below_drew1) | exact HB.out)) hb); clear HO_3; clear HB; have HO_3 := n0_; have HB := n1_; clear n0_ n1_; (try clear hb); (try clear hb2); (try clear hk); (try clear hi); have p391 : 0 ≤ (x7_1 : Int) := of_decide_eq_true (by first | (with_reducible assumption) | assumption); have q391 : x7_1 < (t383.length : Int) := of_decide_eq_true (by first | (with_reducible assumption) | assumption); obtain ⟨ad391, e391, hx391_0, hx391_1⟩ := at_T38 (Kd.R_reads' HO_3.out).2.2 x7_1 p391 q391; obtain rfl : ad389 = ad391 := (by injection e391); replace p391 := eq_true p391; replace q391 := eq_true q391))
        go_roundg k1
        case measure => have := HK1.out; omega
        case rel => exact ⟨(ji19), (wrap64 (x7_1 + 1)), (by first | rfl | (simp only [i64_w, i32_w]; done) | (simp only [i64_w, i32_w]; rfl) | (simp; done) | (simp only [← hji19] <;> (first | rfl | simp)) | (simp [*]; done)), (by first | rfl | (simp; done) | (simp only [i64_w, i32_w]; done) | (simp only [i64_w, i32_w]; rfl) | (simp [*]; done) | (simp [emp_bne, emp_beq]; done)), H', ⟨by have := HK1.out; omega⟩, ⟨by (with_reducible repeat (first | apply Kd.R_alloc | apply Kd.R_drewN | apply Kd.R_drew)); exact HO_3.out⟩, ⟨by repeat (first | (with_reducible first | exact HB.out | apply below_alloc | apply pw_below_drewN | apply below_drew1) | exact HB.out)⟩⟩
       ·replace c18 := Bool.eq_false_iff.mpr c18
        subst c18
        have H1 : (laws_FnLetsLongest.l0 k1 t383 t384 t387 x6_1 (wrap64 (x7_1 + 1))) = some r := by rw [if_neg (show ¬ (false = true) by decide)] at H; exact H
        clear H
        have H := H1
        clear H1
        have H' := Aside0.mk H
        clear H
        have p389 : 0 ≤ (x7_1 : Int) := of_decide_eq_true (by first | (with_reducible assumption) | assumption)
        have q389 : x7_1 < (t383.length : Int) := of_decide_eq_true (by first | (with_reducible assumption) | assumption)
        obtain ⟨ad389, e389, hx389_0, hx389_1⟩ := at_T38 (Kd.R_reads' HO_3.out).2.2 x7_1 p389 q389
        cases e389
        replace p389 := eq_true p389
        replace q389 := eq_true q389
        go_wp2_with (first | ((with_reducible refine gate_callee (f := 14) rfl ?_); refine goesL_ (some 38) rfl rfl Try.func14 (by kernel_rfl) rfl #[.string ((rd_T38 t383 x7_1).f1), .string t384] rfl (by (try simp only [List.map_toArray, List.map_cons, List.map_nil]); first | done | rfl | (simp only [List.length_drop, List.length_take]; rfl)) ?_; (with_reducible refine (impl_RuleHas.calls k1 ((rd_T38 t383 x7_1).f1) t384 false _ A17.out).mono ?_); rintro e w21 ⟨rfl, hb⟩; refine ⟨_, rfl, ?_⟩; have n0_ := Aside0.mk (Kd.R_below (by (with_reducible repeat (first | apply Kd.R_alloc | apply Kd.R_drewN | apply Kd.R_drew)); exact HO_3.out) hb); have n1_ := Aside0.mk (below_step (by repeat (first | (with_reducible first | exact HB.out | apply below_alloc | apply pw_below_drewN | apply below_drew1) | exact HB.out)) hb); clear HO_3; clear HB; have HO_3 := n0_; have HB := n1_; clear n0_ n1_; (try clear hb); (try clear hb2); (try clear hk); (try clear hi)))
        go_roundg k1
        case measure => have := HK1.out; omega
        case rel => exact ⟨(x6_1), (wrap64 (x7_1 + 1)), (by first | rfl | (simp; done) | (simp only [i64_w, i32_w]; done) | (simp only [i64_w, i32_w]; rfl) | (simp [*]; done) | (simp [emp_bne, emp_beq]; done)), (by first | rfl | (simp; done) | (simp only [i64_w, i32_w]; done) | (simp only [i64_w, i32_w]; rfl) | (simp [*]; done) | (simp [emp_bne, emp_beq]; done)), H', ⟨by have := HK1.out; omega⟩, ⟨by (with_reducible repeat (first | apply Kd.R_alloc | apply Kd.R_drewN | apply Kd.R_drew)); exact HO_3.out⟩, ⟨by repeat (first | (with_reducible first | exact HB.out | apply below_alloc | apply pw_below_drewN | apply below_drew1) | exact HB.out)⟩⟩
      ·rw [if_neg c16] at H
       exact absurd H (by simp)
     ·rw [if_neg c15] at H
      have c15b0 : decide (x7_1 < (t383.length : Int)) = false := decide_eq_false c15
      clear c15
      have H' := Aside0.mk H
      clear H
      go_wp2
      go_loopg [8, 9] k1 (fun kq v8 v9 w' => ∃ (x8_2 : Bool) (x9_2 : Int), v8 = .bool x8_2 ∧ v9 = .int .i64 x9_2 ∧ Aside0 (laws_FnLetsLongest.l1 kq t383 t384 t387 x6_1 x8_2 x9_2 = some r) ∧ Aside0 (kq ≤ k1) ∧ Aside0 (Kd.R k38 38 w' w.heap.size (fun _ => True) (.slice Ao12 t383.length co12) t383) ∧ Aside0 (Below w.heap.size w w'))
      case atStart => exact ⟨((x6_1 == 0)), (0), (by first | rfl | (simp; done) | (simp only [i64_w, i32_w]; done) | (simp only [i64_w, i32_w]; rfl) | (simp [*]; done) | (simp [emp_bne, emp_beq]; done)), (by first | rfl | (simp; done) | (simp only [i64_w, i32_w]; done) | (simp only [i64_w, i32_w]; rfl) | (simp [*]; done) | (simp [emp_bne, emp_beq]; done)), H', ⟨Nat.le_refl _⟩, ⟨by (with_reducible repeat (first | apply Kd.R_alloc | apply Kd.R_drewN | apply Kd.R_drew)); exact HO_3.out⟩, ⟨by repeat (first | (with_reducible first | exact HB.out | apply below_alloc | apply pw_below_drewN | apply below_drew1) | exact HB.out)⟩⟩
      case round =>
       clear H'
       try clear c1
       try clear c2
       try clear c2b0
       try clear c2b1
       try clear p2
       try clear p3
       try clear q3
       try clear hx3
       try clear c6
       try clear c6b0
       try clear c6b1
       try clear c6b2
       try clear p6
       try clear c11
       try clear c14
       try clear c15
       try clear c15b0
       try clear c16
       try clear c16b0
       try clear c18
       try clear hx389_0
       try clear hx389_1
       try clear hx391_0
       try clear hx391_1
       try clear p2
       try clear p389
       try clear p391
       try clear q389
       try clear q391
       obtain ⟨x8_2, x9_2, rfl, rfl, HA, HK2, HO_3, HB⟩ := hrel
       cases gk with
       | zero => exact absurd HA.out (by simp [laws_FnLetsLongest.l1])
       | succ k2 =>
        have H := HA.out
        clear HA
        simp only [laws_FnLetsLongest.l1] at H
        by_cases c22 : x9_2 < (t383.length : Int)
        ·rw [if_pos c22] at H
         have c22b0 : decide (x9_2 < (t383.length : Int)) = true := decide_eq_true c22
         clear c22
         by_cases c23 : x8_2 = true
         ·subst c23
          have H1 : (laws_FnLetsLongest.l1 k2 t383 t384 t387 x6_1 true (wrap64 (x9_2 + 1))) = some r := by rw [if_pos rfl] at H; exact H
          clear H
          have H := H1
          clear H1
          have H' := Aside0.mk H
          clear H
          go_wp2
          go_roundg k2
          case measure => have := HK1.out; have := HK2.out; omega
          case rel => exact ⟨(true), (wrap64 (x9_2 + 1)), (by first | rfl | (simp; done) | (simp only [i64_w, i32_w]; done) | (simp only [i64_w, i32_w]; rfl) | (simp [*]; done) | (simp [emp_bne, emp_beq]; done)), (by first | rfl | (simp; done) | (simp only [i64_w, i32_w]; done) | (simp only [i64_w, i32_w]; rfl) | (simp [*]; done) | (simp [emp_bne, emp_beq]; done)), H', ⟨by have := HK1.out; have := HK2.out; omega⟩, ⟨by (with_reducible repeat (first | apply Kd.R_alloc | apply Kd.R_drewN | apply Kd.R_drew)); exact HO_3.out⟩, ⟨by repeat (first | (with_reducible first | exact HB.out | apply below_alloc | apply pw_below_drewN | apply below_drew1) | exact HB.out)⟩⟩
         ·replace c23 := Bool.eq_false_iff.mpr c23
          subst c23
          have H1 : (if 0 ≤ x9_2 then (if (rd_T38 t383 x9_2).f0 = true then (if (((rd_T38 t383 x9_2).f1).size : Int) = x6_1 then ((impl_RuleHas.f k2 ((rd_T38 t383 x9_2).f1) t384).bind fun t395 => (laws_FnLetsLongest.l1 k2 t383 t384 t387 x6_1 t395 (wrap64 (x9_2 + 1)))) else (laws_FnLetsLongest.l1 k2 t383 t384 t387 x6_1 false (wrap64 (x9_2 + 1)))) else (laws_FnLetsLongest.l1 k2 t383 t384 t387 x6_1 false (wrap64 (x9_2 + 1)))) else (none)) = some r := by rw [if_neg (show ¬ (false = true) by decide)] at H; exact H
          clear H
          have H := H1
          clear H1
          by_cases c24 : 0 ≤ x9_2
          ·rw [if_pos c24] at H
           have c24b0 : decide (0 ≤ x9_2) = true := decide_eq_true c24
           clear c24
           obtain ⟨bq25, hbq25⟩ : ∃ b_ : Bool, b_ = ((rd_T38 t383 x9_2).f0) := ⟨_, rfl⟩
           replace H : (if bq25 = true then (if (((rd_T38 t383 x9_2).f1).size : Int) = x6_1 then ((impl_RuleHas.f k2 ((rd_T38 t383 x9_2).f1) t384).bind fun t395 => (laws_FnLetsLongest.l1 k2 t383 t384 t387 x6_1 t395 (wrap64 (x9_2 + 1)))) else (laws_FnLetsLongest.l1 k2 t383 t384 t387 x6_1 false (wrap64 (x9_2 + 1)))) else (laws_FnLetsLongest.l1 k2 t383 t384 t387 x6_1 false (wrap64 (x9_2 + 1)))) = some r := by rw [← hbq25] at H; exact H
           have Nbq25 := Aside0.mk hbq25
           clear hbq25
           by_cases c26 : bq25 = true
           ·subst c26
            have H1 : (if (((rd_T38 t383 x9_2).f1).size : Int) = x6_1 then ((impl_RuleHas.f k2 ((rd_T38 t383 x9_2).f1) t384).bind fun t395 => (laws_FnLetsLongest.l1 k2 t383 t384 t387 x6_1 t395 (wrap64 (x9_2 + 1)))) else (laws_FnLetsLongest.l1 k2 t383 t384 t387 x6_1 false (wrap64 (x9_2 + 1)))) = some r := by rw [if_pos rfl] at H; exact H
            clear H
            have H := H1
            clear H1
            by_cases c27 : (((rd_T38 t383 x9_2).f1).size : Int) = x6_1
            ·rw [if_pos c27] at H
             have c27b0 : ((((rd_T38 t383 x9_2).f1).size : Int) == x6_1) = true := beq_iff_eq.mpr c27
             have c27b1 : ((((rd_T38 t383 x9_2).f1).size : Int) != x6_1) = false := bne_eq_false_iff_eq.mpr c27
             clear c27
             replace H := Option.bind_eq_some_iff.mp H
             obtain ⟨t395, A280, H⟩ := H
             replace H : (laws_FnLetsLongest.l1 k2 t383 t384 t387 x6_1 t395 (wrap64 (x9_2 + 1))) = some r := H
             have A28 := Aside0.mk A280
             clear A280
             have H' := Aside0.mk H
             clear H
             have p392 : 0 ≤ (x9_2 : Int) := of_decide_eq_true (by first | (with_reducible assumption) | assumption)
             have q392 : x9_2 < (t383.length : Int) := of_decide_eq_true (by first | (with_reducible assumption) | assumption)
             obtain ⟨ad392, e392, hx392_0, hx392_1⟩ := at_T38 (Kd.R_reads' HO_3.out).2.2 x9_2 p392 q392
             (try rw [← Nbq25.out] at hx392_0)
             cases e392
             replace p392 := eq_true p392
             replace q392 := eq_true q392
             have p393 : 0 ≤ (x9_2 : Int) := of_decide_eq_true (by first | (with_reducible assumption) | assumption)
             have q393 : x9_2 < (t383.length : Int) := of_decide_eq_true (by first | (with_reducible assumption) | assumption)
             obtain ⟨ad393, e393, hx393_0, hx393_1⟩ := at_T38 (Kd.R_reads' HO_3.out).2.2 x9_2 p393 q393
             (try rw [← Nbq25.out] at hx393_0)
             obtain rfl : ad392 = ad393 := (by injection e393)
             replace p393 := eq_true p393
             replace q393 := eq_true q393
             have p394 : 0 ≤ (x9_2 : Int) := of_decide_eq_true (by first | (with_reducible assumption) | assumption)
             have q394 : x9_2 < (t383.length : Int) := of_decide_eq_true (by first | (with_reducible assumption) | assumption)
             obtain ⟨ad394, e394, hx394_0, hx394_1⟩ := at_T38 (Kd.R_reads' HO_3.out).2.2 x9_2 p394 q394
             (try rw [← Nbq25.out] at hx394_0)
             obtain rfl : ad392 = ad394 := (by injection e394)
             replace p394 := eq_true p394
             replace q394 := eq_true q394
             go_wp2_with (first | (go_at_call 14; (with_reducible refine (impl_RuleHas.calls k2 ((rd_T38 t383 x9_2).f1) t384 t395 _ A28.out).mono ?_); rintro e w29 ⟨rfl, hb⟩; have n0_ := Aside0.mk (Kd.R_below (by (with_reducible repeat (first | apply Kd.R_alloc | apply Kd.R_drewN | apply Kd.R_drew)); exact HO_3.out) hb); have n1_ := Aside0.mk (below_step (by repeat (first | (with_reducible first | exact HB.out | apply below_alloc | apply pw_below_drewN | apply below_drew1) | exact HB.out)) hb); clear HO_3; clear HB; have HO_3 := n0_; have HB := n1_; clear n0_ n1_; (try clear hb); (try clear hb2); (try clear hk); (try clear hi)))
             go_roundg k2
             case measure => have := HK1.out; have := HK2.out; omega
             case rel => exact ⟨(t395), (wrap64 (x9_2 + 1)), (by first | rfl | (simp; done) | (simp only [i64_w, i32_w]; done) | (simp only [i64_w, i32_w]; rfl) | (simp [*]; done) | (simp [emp_bne, emp_beq]; done)), (by first | rfl | (simp; done) | (simp only [i64_w, i32_w]; done) | (simp only [i64_w, i32_w]; rfl) | (simp [*]; done) | (simp [emp_bne, emp_beq]; done)), H', ⟨by have := HK1.out; have := HK2.out; omega⟩, ⟨by (with_reducible repeat (first | apply Kd.R_alloc | apply Kd.R_drewN | apply Kd.R_drew)); exact HO_3.out⟩, ⟨by repeat (first | (with_reducible first | exact HB.out | apply below_alloc | apply pw_below_drewN | apply below_drew1) | exact HB.out)⟩⟩
            ·rw [if_neg c27] at H
             have c27b0 : ((((rd_T38 t383 x9_2).f1).size : Int) == x6_1) = false := beq_eq_false_iff_ne.mpr c27
             have c27b1 : ((((rd_T38 t383 x9_2).f1).size : Int) != x6_1) = true := bne_iff_ne.mpr c27
             have H' := Aside0.mk H
             clear H
             have p392 : 0 ≤ (x9_2 : Int) := of_decide_eq_true (by first | (with_reducible assumption) | assumption)
             have q392 : x9_2 < (t383.length : Int) := of_decide_eq_true (by first | (with_reducible assumption) | assumption)
             obtain ⟨ad392, e392, hx392_0, hx392_1⟩ := at_T38 (Kd.R_reads' HO_3.out).2.2 x9_2 p392 q392
             (try rw [← Nbq25.out] at hx392_0)
             cases e392
             replace p392 := eq_true p392
             replace q392 := eq_true q392
             have p393 : 0 ≤ (x9_2 : Int) := of_decide_eq_true (by first | (with_reducible assumption) | assumption)
             have q393 : x9_2 < (t383.length : Int) := of_decide_eq_true (by first | (with_reducible assumption) | assumption)
             obtain ⟨ad393, e393, hx393_0, hx393_1⟩ := at_T38 (Kd.R_reads' HO_3.out).2.2 x9_2 p393 q393
             (try rw [← Nbq25.out] at hx393_0)
             obtain rfl : ad392 = ad393 := (by injection e393)
             replace p393 := eq_true p393
             replace q393 := eq_true q393
             go_wp2
             go_roundg k2
             case measure => have := HK1.out; have := HK2.out; omega
             case rel => exact ⟨(false), (wrap64 (x9_2 + 1)), (by first | rfl | (simp; done) | (simp only [i64_w, i32_w]; done) | (simp only [i64_w, i32_w]; rfl) | (simp [*]; done) | (simp [emp_bne, emp_beq]; done)), (by first | rfl | (simp; done) | (simp only [i64_w, i32_w]; done) | (simp only [i64_w, i32_w]; rfl) | (simp [*]; done) | (simp [emp_bne, emp_beq]; done)), H', ⟨by have := HK1.out; have := HK2.out; omega⟩, ⟨by (with_reducible repeat (first | apply Kd.R_alloc | apply Kd.R_drewN | apply Kd.R_drew)); exact HO_3.out⟩, ⟨by repeat (first | (with_reducible first | exact HB.out | apply below_alloc | apply pw_below_drewN | apply below_drew1) | exact HB.out)⟩⟩
           ·replace c26 := Bool.eq_false_iff.mpr c26
            subst c26
            have H1 : (laws_FnLetsLongest.l1 k2 t383 t384 t387 x6_1 false (wrap64 (x9_2 + 1))) = some r := by rw [if_neg (show ¬ (false = true) by decide)] at H; exact H
            clear H
            have H := H1
            clear H1
            have H' := Aside0.mk H
            clear H
            have p392 : 0 ≤ (x9_2 : Int) := of_decide_eq_true (by first | (with_reducible assumption) | assumption)
            have q392 : x9_2 < (t383.length : Int) := of_decide_eq_true (by first | (with_reducible assumption) | assumption)
            obtain ⟨ad392, e392, hx392_0, hx392_1⟩ := at_T38 (Kd.R_reads' HO_3.out).2.2 x9_2 p392 q392
            (try rw [← Nbq25.out] at hx392_0)
            cases e392
            replace p392 := eq_true p392
            replace q392 := eq_true q392
            go_wp2
            go_roundg k2
            case measure => have := HK1.out; have := HK2.out; omega
            case rel => exact ⟨(false), (wrap64 (x9_2 + 1)), (by first | rfl | (simp; done) | (simp only [i64_w, i32_w]; done) | (simp only [i64_w, i32_w]; rfl) | (simp [*]; done) | (simp [emp_bne, emp_beq]; done)), (by first | rfl | (simp; done) | (simp only [i64_w, i32_w]; done) | (simp only [i64_w, i32_w]; rfl) | (simp [*]; done) | (simp [emp_bne, emp_beq]; done)), H', ⟨by have := HK1.out; have := HK2.out; omega⟩, ⟨by (with_reducible repeat (first | apply Kd.R_alloc | apply Kd.R_drewN | apply Kd.R_drew)); exact HO_3.out⟩, ⟨by repeat (first | (with_reducible first | exact HB.out | apply below_alloc | apply pw_below_drewN | apply below_drew1) | exact HB.out)⟩⟩
          ·rw [if_neg c24] at H
           exact absurd H (by simp)
        ·rw [if_neg c22] at H
         have c22b0 : decide (x9_2 < (t383.length : Int)) = false := decide_eq_false c22
         clear c22
         obtain rfl := Option.some.inj H
         go_wp2
         go_ret
         exact ⟨by first | rfl | (simp <;> rfl) | (simp [*] <;> rfl), by repeat (first | (with_reducible first | exact HB.out | apply below_alloc | apply pw_below_drewN | apply below_drew1) | exact HB.out)⟩

/-- THE ONE PURE STATEMENT of laws_FnLetsLongest: yours. -/
def laws_FnLetsLongest.Pure : Prop := ∀ (l0 : List Int), l0.length ≤ maxLen → l0.length * 1 ≤ 140737488351232 → (∀ x ∈ l0, (Lit.int .u8 x).wf = true) → ∃ k, laws_FnLetsLongest.f k l0 = some true
theorem laws_FnLetsLongest.walk (P : laws_FnLetsLongest.Pure) (a0 : Option Addr) (len0 cap0 : Nat) (z0 : List Int) (w : World) (w0 : (a0 = none ∧ len0 = 0 ∧ cap0 = 0 ∧ z0 = []) ∨ ∃ x, a0 = some x ∧ len0 ≤ cap0 ∧ cap0 ≤ maxLen ∧ z0.length = cap0 ∧ (∀ i, i < z0.length → w.cell? (x.add i) = some (.int .u8 (z0.getD i 0))) ∧ ∀ n ∈ z0, (Lit.int .u8 n).wf = true) (y0 : len0 * 1 ≤ 140737488351232) :
  Calls Try.prog 11 #[.slice a0 len0 cap0] w fun e w' => e = .returned (.bool true) ∧ Below w.heap.size w w' := by
 obtain ⟨l0, rfl, hr0, hm0, hw0, hc0⟩ := ReadsInt.ofRowC w0
 obtain ⟨k, h⟩ := P l0 hm0 y0 hw0
 refine (laws_FnLetsLongest.calls k _ _ l0 true w (Kd.C_of_reads (d := (0 : Int)) (h1 := fun _ => rfl) hr0) hc0 h).mono ?_
 rintro e w' ⟨rfl, hd⟩
 exact ⟨rfl, hd⟩

end Go.Proofs.Ytmkncihmgbjgnaa.P
