-- Written by a program of this session (patch_print.py over the kit's print; given texts in wip/given).
import Derived.Test.YtmkncihmgbjgnaaPx0
import Derived.Test.YtmkncihmgbjgnaaPx2
namespace Go.Proofs.Ytmkncihmgbjgnaa.P
open Go.RowKit Go.Proofs.YtmkncihmgbjgnaaW.PrintWords Go.Proofs.YtmkncihmgbjgnaaW.PrintLast Go.Proofs.YtmkncihmgbjgnaaW.PrintMore
attribute [local go_sem] max2_int min2_int max_two min_two max_three min_three max_four min_four   -- for this text's walks alone
set_option linter.unusedVariables false
set_option linter.unusedSimpArgs false
set_option maxHeartbeats 8000000
set_option maxRecDepth 100000

/-! ### spec_l2Find: function 44 -/
def spec_l2Find.l0 : Nat → ByteArray → ByteArray → Int → Option (Int)
 | 0, _, _, _ => none
 | k + 1, x0, x1, x7 => if (wrap64 (x7 + (x1.size : Int))) ≤ (x0.size : Int) then (if 0 ≤ x7 then (if x7 ≤ (wrap64 (x7 + (x1.size : Int))) then (if (x0.extract (x7 : Int).toNat ((wrap64 (x7 + (x1.size : Int))) : Int).toNat).toList = x1.toList then (some x7) else (spec_l2Find.l0 k x0 x1 (wrap64 (x7 + 1)))) else (none)) else (none)) else (some (-1))
def spec_l2Find.f (k : Nat) (a0 : ByteArray) (a1 : ByteArray) (a2 : Int) : Option (Int) := spec_l2Find.l0 k a0 a1 a2
theorem spec_l2Find.mono_l : ∀ k, (∀ y0 y1 y2, LeO (spec_l2Find.l0 k y0 y1 y2) (spec_l2Find.l0 (k + 1) y0 y1 y2))
 | 0 => fun _ _ _ r h => by simp [spec_l2Find.l0] at h
 | k + 1 => by
  have ih0 := spec_l2Find.mono_l k
  ·intro y0 y1 y2
   unfold spec_l2Find.l0
   repeat' first
   | (with_reducible exact ih0 _ _ _)
   | (with_reducible exact LeO.refl _)
   | (with_reducible exact LeO.none _)
   | (with_reducible refine LeO.ite ?_ ?_)
   | (with_reducible refine LeO.bind ?_ (fun _ => ?_))
   | exact ih0 _ _ _
   | exact LeO.none _
   | refine LeO.ite ?_ ?_
   | refine LeO.bind ?_ (fun _ => ?_)
theorem spec_l2Find.mono : ∀ a0 a1 a2 k, LeO (spec_l2Find.f k a0 a1 a2) (spec_l2Find.f (k + 1) a0 a1 a2) := by
 intro a0 a1 a2 k
 have ih0 := spec_l2Find.mono_l k
 unfold spec_l2Find.f
 repeat' first
   | (with_reducible exact ih0 _ _ _)
   | (with_reducible exact LeO.refl _)
   | (with_reducible exact LeO.none _)
   | (with_reducible refine LeO.ite ?_ ?_)
   | (with_reducible refine LeO.bind ?_ (fun _ => ?_))
   | exact ih0 _ _ _
   | exact LeO.none _
   | refine LeO.ite ?_ ?_
   | refine LeO.bind ?_ (fun _ => ?_)
theorem spec_l2Find.calls (k : Nat) (a0 : ByteArray) (a1 : ByteArray) (a2 : Int) (r : Int) (w : World) (h : spec_l2Find.f k a0 a1 a2 = some r) :
  Calls Try.prog 44 #[.string a0, .string a1, .int .i64 a2] w fun e w' => e = .returned (.int .i64 r) ∧ Drawn0 w w' := by
 have H : (spec_l2Find.l0 k a0 a1 a2) = some r := h
 clear h
 have H' := Aside0.mk H
 clear H
 go_enter Try.func44, Try.ntmps44
 go_wp2
 go_loopg [7] k (fun kq v7 w' => ∃ (x7_1 : Int), v7 = .int .i64 x7_1 ∧ Aside0 (spec_l2Find.l0 kq a0 a1 x7_1 = some r) ∧ Aside0 (kq ≤ k) ∧ Drawn0 w w')
 case atStart => exact ⟨(a2), (by first | rfl | (simp; done) | (simp only [i64_w, i32_w]; done) | (simp only [i64_w, i32_w]; rfl) | (simp [*]; done) | (simp [emp_bne, emp_beq]; done)), H', ⟨Nat.le_refl _⟩, by repeat (first | exact Drawn0.refl _ | apply Drawn0.step)⟩
 case round =>
  clear H'
  try clear p2
  obtain ⟨x7_1, rfl, HA, HK1, ⟨m1, rfl⟩⟩ := hrel
  cases gk with
  | zero => exact absurd HA.out (by simp [spec_l2Find.l0])
  | succ k1 =>
   have H := HA.out
   clear HA
   simp only [spec_l2Find.l0] at H
   by_cases c4 : (wrap64 (x7_1 + (a1.size : Int))) ≤ (a0.size : Int)
   ·rw [if_pos c4] at H
    have c4b0 : decide ((wrap64 (x7_1 + (a1.size : Int))) ≤ (a0.size : Int)) = true := decide_eq_true c4
    clear c4
    by_cases c5 : 0 ≤ x7_1
    ·rw [if_pos c5] at H
     have c5b0 := eq_true c5
     have c5b1 := decide_eq_true c5
     clear c5
     by_cases c6 : x7_1 ≤ (wrap64 (x7_1 + (a1.size : Int)))
     ·rw [if_pos c6] at H
      have c6b0 := eq_true c6
      have c6b1 := decide_eq_true c6
      have c7b0 := eq_true (of_decide_eq_true (by first | (with_reducible assumption) | assumption) : (wrap64 (x7_1 + (a1.size : Int))) ≤ (a0.size : Int))
      by_cases c8 : (a0.extract (x7_1 : Int).toNat ((wrap64 (x7_1 + (a1.size : Int))) : Int).toNat).toList = a1.toList
      ·rw [if_pos c8] at H
       have c8b0 : ((a0.extract (x7_1 : Int).toNat ((wrap64 (x7_1 + (a1.size : Int))) : Int).toNat).toList == a1.toList) = true := beq_iff_eq.mpr c8
       (try (have c8b0n := c8b0; simp only [Int.toNat_natCast] at c8b0n))
       have c8b1 : ((a0.extract (x7_1 : Int).toNat ((wrap64 (x7_1 + (a1.size : Int))) : Int).toNat).toList != a1.toList) = false := bne_eq_false_iff_eq.mpr c8
       (try (have c8b1n := c8b1; simp only [Int.toNat_natCast] at c8b1n))
       clear c8
       obtain rfl := Option.some.inj H
       go_wp2
       go_ret
       exact ⟨by first | rfl | (simp; done) | (simp only [i64_w, i32_w]; done) | (simp only [i64_w, i32_w]; rfl) | (simp [*]; done) | (simp [emp_bne, emp_beq]; done), by repeat (first | exact Drawn0.refl _ | apply Drawn0.step)⟩
      ·rw [if_neg c8] at H
       have c8b0 : ((a0.extract (x7_1 : Int).toNat ((wrap64 (x7_1 + (a1.size : Int))) : Int).toNat).toList == a1.toList) = false := beq_eq_false_iff_ne.mpr c8
       (try (have c8b0n := c8b0; simp only [Int.toNat_natCast] at c8b0n))
       have c8b1 : ((a0.extract (x7_1 : Int).toNat ((wrap64 (x7_1 + (a1.size : Int))) : Int).toNat).toList != a1.toList) = true := bne_iff_ne.mpr c8
       (try (have c8b1n := c8b1; simp only [Int.toNat_natCast] at c8b1n))
       have H' := Aside0.mk H
       clear H
       go_wp2
       go_roundg k1
       case measure => have := HK1.out; omega
       case rel => exact ⟨(wrap64 (x7_1 + 1)), (by first | rfl | (simp; done) | (simp only [i64_w, i32_w]; done) | (simp only [i64_w, i32_w]; rfl) | (simp [*]; done) | (simp [emp_bne, emp_beq]; done)), H', ⟨by have := HK1.out; omega⟩, by repeat (first | exact Drawn0.refl _ | apply Drawn0.step)⟩
     ·rw [if_neg c6] at H
      exact absurd H (by simp)
    ·rw [if_neg c5] at H
     exact absurd H (by simp)
   ·rw [if_neg c4] at H
    have c4b0 : decide ((wrap64 (x7_1 + (a1.size : Int))) ≤ (a0.size : Int)) = false := decide_eq_false c4
    clear c4
    obtain rfl := Option.some.inj H
    go_wp2
    go_ret
    exact ⟨by first | rfl | (simp; done) | (simp only [i64_w, i32_w]; done) | (simp only [i64_w, i32_w]; rfl) | (simp [*]; done) | (simp [emp_bne, emp_beq]; done), by repeat (first | exact Drawn0.refl _ | apply Drawn0.step)⟩

/-! ### spec_l2Has: function 26 -/
def spec_l2Has.l0 : Nat → ByteArray → Bool → List ByteArray → Int → Int → Option (Bool)
 | 0, _, _, _, _, _ => none
 | k + 1, x1, x5, x6, x7, x8 => if x8 < (x6.length : Int) then (if x5 = true then (if x8 = (wrap64 ((x6.length : Int) - 1)) then (if 0 ≤ x8 then (if (wrap64 ((x1.size : Int) - ((rdOf ByteArray.empty x6 x8).size : Int))) ≥ x7 then (if 0 ≤ (wrap64 ((x1.size : Int) - ((rdOf ByteArray.empty x6 x8).size : Int))) then (if (wrap64 ((x1.size : Int) - ((rdOf ByteArray.empty x6 x8).size : Int))) ≤ (x1.size : Int) then (some ((x1.extract ((wrap64 ((x1.size : Int) - ((rdOf ByteArray.empty x6 x8).size : Int))) : Int).toNat x1.size).toList == (rdOf ByteArray.empty x6 x8).toList)) else (none)) else (none)) else (some false)) else (none)) else (if 0 ≤ x8 then ((spec_l2Find.f k x1 (rdOf ByteArray.empty x6 x8) x7).bind fun t119 => (if t119 < 0 then (some false) else (spec_l2Has.l0 k x1 x5 x6 (wrap64 (t119 + ((rdOf ByteArray.empty x6 x8).size : Int))) (wrap64 (x8 + 1))))) else (none))) else (if 0 ≤ x8 then ((spec_l2Find.f k x1 (rdOf ByteArray.empty x6 x8) x7).bind fun t122 => (if t122 < 0 then (some false) else (spec_l2Has.l0 k x1 x5 x6 (wrap64 (t122 + ((rdOf ByteArray.empty x6 x8).size : Int))) (wrap64 (x8 + 1))))) else (none))) else (if x5 = true then (some (x7 == (x1.size : Int))) else (some true))
def spec_l2Has.f (k : Nat) (a0 : ByteArray) (a1 : ByteArray) : Option (Bool) := if 0 ≤ (wrap64 ((a0.size : Int) - 1)) then (if (wrap64 ((a0.size : Int) - 1)) < (a0.size : Int) then (if (bt a0 (wrap64 ((a0.size : Int) - 1))) = 36 then (if (wrap64 ((a0.size : Int) - 1)) ≤ (a0.size : Int) then ((spec_l1Split.f k (a0.extract 0 ((wrap64 ((a0.size : Int) - 1)) : Int).toNat) 42).bind fun t111 => (if 0 < (t111.length : Int) then (if ((rdOf ByteArray.empty t111 0).size : Int) > (a1.size : Int) then (some false) else (if 0 ≤ ((rdOf ByteArray.empty t111 0).size : Int) then (if ((rdOf ByteArray.empty t111 0).size : Int) ≤ (a1.size : Int) then (if (a1.extract 0 (((rdOf ByteArray.empty t111 0).size : Int) : Int).toNat).toList = (rdOf ByteArray.empty t111 0).toList then (spec_l2Has.l0 k a1 ((bt a0 (wrap64 ((a0.size : Int) - 1))) == 36) t111 ((rdOf ByteArray.empty t111 0).size : Int) 1) else (some false)) else (none)) else (none))) else (none))) else (none)) else ((spec_l1Split.f k a0 42).bind fun t124 => (if 0 < (t124.length : Int) then (if ((rdOf ByteArray.empty t124 0).size : Int) > (a1.size : Int) then (some false) else (if 0 ≤ ((rdOf ByteArray.empty t124 0).size : Int) then (if ((rdOf ByteArray.empty t124 0).size : Int) ≤ (a1.size : Int) then (if (a1.extract 0 (((rdOf ByteArray.empty t124 0).size : Int) : Int).toNat).toList = (rdOf ByteArray.empty t124 0).toList then (spec_l2Has.l0 k a1 ((bt a0 (wrap64 ((a0.size : Int) - 1))) == 36) t124 ((rdOf ByteArray.empty t124 0).size : Int) 1) else (some false)) else (none)) else (none))) else (none)))) else (none)) else (none)
theorem spec_l2Has.mono_l : ∀ k, (∀ y0 y1 y2 y3 y4, LeO (spec_l2Has.l0 k y0 y1 y2 y3 y4) (spec_l2Has.l0 (k + 1) y0 y1 y2 y3 y4))
 | 0 => fun _ _ _ _ _ r h => by simp [spec_l2Has.l0] at h
 | k + 1 => by
  have ih0 := spec_l2Has.mono_l k
  ·intro y0 y1 y2 y3 y4
   unfold spec_l2Has.l0
   repeat' first
   | (with_reducible exact ih0 _ _ _ _ _)
   | (with_reducible exact spec_l1Split.mono _ _ _)
   | (with_reducible exact spec_l2Find.mono _ _ _ _)
   | (with_reducible exact LeO.refl _)
   | (with_reducible exact LeO.none _)
   | (with_reducible refine LeO.ite ?_ ?_)
   | (with_reducible refine LeO.bind ?_ (fun _ => ?_))
   | exact ih0 _ _ _ _ _
   | exact spec_l1Split.mono _ _ _
   | exact spec_l2Find.mono _ _ _ _
   | exact LeO.none _
   | refine LeO.ite ?_ ?_
   | refine LeO.bind ?_ (fun _ => ?_)
theorem spec_l2Has.mono : ∀ a0 a1 k, LeO (spec_l2Has.f k a0 a1) (spec_l2Has.f (k + 1) a0 a1) := by
 intro a0 a1 k
 have ih0 := spec_l2Has.mono_l k
 unfold spec_l2Has.f
 repeat' first
   | (with_reducible exact ih0 _ _ _ _ _)
   | (with_reducible exact spec_l1Split.mono _ _ _)
   | (with_reducible exact spec_l2Find.mono _ _ _ _)
   | (with_reducible exact LeO.refl _)
   | (with_reducible exact LeO.none _)
   | (with_reducible refine LeO.ite ?_ ?_)
   | (with_reducible refine LeO.bind ?_ (fun _ => ?_))
   | exact ih0 _ _ _ _ _
   | exact spec_l1Split.mono _ _ _
   | exact spec_l2Find.mono _ _ _ _
   | exact LeO.none _
   | refine LeO.ite ?_ ?_
   | refine LeO.bind ?_ (fun _ => ?_)
theorem spec_l2Has.calls (k : Nat) (a0 : ByteArray) (a1 : ByteArray) (r : Bool) (w : World) (h : spec_l2Has.f k a0 a1 = some r) :
  Calls Try.prog 26 #[.string a0, .string a1] w fun e w' => e = .returned (.bool r) ∧ Below w.heap.size w w' := by
 have HB := Aside0.mk (Below.refl w.heap.size w)
 have H : (if 0 ≤ (wrap64 ((a0.size : Int) - 1)) then (if (wrap64 ((a0.size : Int) - 1)) < (a0.size : Int) then (if (bt a0 (wrap64 ((a0.size : Int) - 1))) = 36 then (if (wrap64 ((a0.size : Int) - 1)) ≤ (a0.size : Int) then ((spec_l1Split.f k (a0.extract 0 ((wrap64 ((a0.size : Int) - 1)) : Int).toNat) 42).bind fun t111 => (if 0 < (t111.length : Int) then (if ((rdOf ByteArray.empty t111 0).size : Int) > (a1.size : Int) then (some false) else (if 0 ≤ ((rdOf ByteArray.empty t111 0).size : Int) then (if ((rdOf ByteArray.empty t111 0).size : Int) ≤ (a1.size : Int) then (if (a1.extract 0 (((rdOf ByteArray.empty t111 0).size : Int) : Int).toNat).toList = (rdOf ByteArray.empty t111 0).toList then (spec_l2Has.l0 k a1 ((bt a0 (wrap64 ((a0.size : Int) - 1))) == 36) t111 ((rdOf ByteArray.empty t111 0).size : Int) 1) else (some false)) else (none)) else (none))) else (none))) else (none)) else ((spec_l1Split.f k a0 42).bind fun t124 => (if 0 < (t124.length : Int) then (if ((rdOf ByteArray.empty t124 0).size : Int) > (a1.size : Int) then (some false) else (if 0 ≤ ((rdOf ByteArray.empty t124 0).size : Int) then (if ((rdOf ByteArray.empty t124 0).size : Int) ≤ (a1.size : Int) then (if (a1.extract 0 (((rdOf ByteArray.empty t124 0).size : Int) : Int).toNat).toList = (rdOf ByteArray.empty t124 0).toList then (spec_l2Has.l0 k a1 ((bt a0 (wrap64 ((a0.size : Int) - 1))) == 36) t124 ((rdOf ByteArray.empty t124 0).size : Int) 1) else (some false)) else (none)) else (none))) else (none)))) else (none)) else (none)) = some r := h
 clear h
 obtain ⟨ji3, hji3⟩ : ∃ j_ : Int, (wrap64 ((a0.size : Int) - 1)) = j_ := ⟨_, rfl⟩
 replace H : (if 0 ≤ (ji3) then (if (ji3) < (a0.size : Int) then (if (bt a0 (ji3)) = 36 then (if (ji3) ≤ (a0.size : Int) then ((spec_l1Split.f k (a0.extract 0 ((ji3) : Int).toNat) 42).bind fun t111 => (if 0 < (t111.length : Int) then (if ((rdOf ByteArray.empty t111 0).size : Int) > (a1.size : Int) then (some false) else (if 0 ≤ ((rdOf ByteArray.empty t111 0).size : Int) then (if ((rdOf ByteArray.empty t111 0).size : Int) ≤ (a1.size : Int) then (if (a1.extract 0 (((rdOf ByteArray.empty t111 0).size : Int) : Int).toNat).toList = (rdOf ByteArray.empty t111 0).toList then (spec_l2Has.l0 k a1 ((bt a0 (ji3)) == 36) t111 ((rdOf ByteArray.empty t111 0).size : Int) 1) else (some false)) else (none)) else (none))) else (none))) else (none)) else ((spec_l1Split.f k a0 42).bind fun t124 => (if 0 < (t124.length : Int) then (if ((rdOf ByteArray.empty t124 0).size : Int) > (a1.size : Int) then (some false) else (if 0 ≤ ((rdOf ByteArray.empty t124 0).size : Int) then (if ((rdOf ByteArray.empty t124 0).size : Int) ≤ (a1.size : Int) then (if (a1.extract 0 (((rdOf ByteArray.empty t124 0).size : Int) : Int).toNat).toList = (rdOf ByteArray.empty t124 0).toList then (spec_l2Has.l0 k a1 ((bt a0 (ji3)) == 36) t124 ((rdOf ByteArray.empty t124 0).size : Int) 1) else (some false)) else (none)) else (none))) else (none)))) else (none)) else (none)) = some r := by first | (rw [hji3] at H; exact H) | (simp only [hji3] at H ⊢; exact H)
 have hji3w : (IntKind.i64.wrap ((a0.size : Int) - 1)) = ji3 := (i64_w _).trans hji3
 by_cases c4 : 0 ≤ (ji3)
 ·rw [if_pos c4] at H
  have c4b0 : decide (0 ≤ (ji3)) = true := decide_eq_true c4
  clear c4
  by_cases c5 : (ji3) < (a0.size : Int)
  ·rw [if_pos c5] at H
   have c5b0 : decide ((ji3) < (a0.size : Int)) = true := decide_eq_true c5
   clear c5
   by_cases c7 : (bt a0 (ji3)) = 36
   ·rw [if_pos c7] at H
    have c7b0 : ((bt a0 (ji3)) == 36) = true := beq_iff_eq.mpr c7
    have c7b1 : ((bt a0 (ji3)) != 36) = false := bne_eq_false_iff_eq.mpr c7
    clear c7
    replace H : (if (ji3) ≤ (a0.size : Int) then ((spec_l1Split.f k (a0.extract 0 ((ji3) : Int).toNat) 42).bind fun t111 => (if 0 < (t111.length : Int) then (if ((rdOf ByteArray.empty t111 0).size : Int) > (a1.size : Int) then (some false) else (if 0 ≤ ((rdOf ByteArray.empty t111 0).size : Int) then (if ((rdOf ByteArray.empty t111 0).size : Int) ≤ (a1.size : Int) then (if (a1.extract 0 (((rdOf ByteArray.empty t111 0).size : Int) : Int).toNat).toList = (rdOf ByteArray.empty t111 0).toList then (spec_l2Has.l0 k a1 true t111 ((rdOf ByteArray.empty t111 0).size : Int) 1) else (some false)) else (none)) else (none))) else (none))) else (none)) = some r := by first | exact H | (simp only [c7b0] at H; exact H)
    have c8b0 := eq_true (of_decide_eq_true (by first | (with_reducible assumption) | assumption) : 0 ≤ (ji3))
    by_cases c9 : (ji3) ≤ (a0.size : Int)
    ·rw [if_pos c9] at H
     have c9b0 := eq_true c9
     have c9b1 := decide_eq_true c9
     clear c9
     replace H := Option.bind_eq_some_iff.mp H
     obtain ⟨t111, A100, H⟩ := H
     replace H : (if 0 < (t111.length : Int) then (if ((rdOf ByteArray.empty t111 0).size : Int) > (a1.size : Int) then (some false) else (if 0 ≤ ((rdOf ByteArray.empty t111 0).size : Int) then (if ((rdOf ByteArray.empty t111 0).size : Int) ≤ (a1.size : Int) then (if (a1.extract 0 (((rdOf ByteArray.empty t111 0).size : Int) : Int).toNat).toList = (rdOf ByteArray.empty t111 0).toList then (spec_l2Has.l0 k a1 true t111 ((rdOf ByteArray.empty t111 0).size : Int) 1) else (some false)) else (none)) else (none))) else (none)) = some r := H
     have A10 := Aside0.mk A100
     clear A100
     by_cases c11 : 0 < (t111.length : Int)
     ·rw [if_pos c11] at H
      have c11b0 : decide (0 < (t111.length : Int)) = true := decide_eq_true c11
      have c11b1 : decide (0 < t111.length) = true := decide_eq_true (by omega)
      clear c11
      by_cases c12 : ((rdOf ByteArray.empty t111 0).size : Int) > (a1.size : Int)
      ·rw [if_pos c12] at H
       have c12b0 : decide ((a1.size : Int) < ((rdOf ByteArray.empty t111 0).size : Int)) = true := decide_eq_true c12
       have c12b1 : decide (a1.size < (rdOf ByteArray.empty t111 0).size) = true := decide_eq_true (Int.ofNat_lt.mp c12)
       clear c12
       obtain rfl := Option.some.inj H
       have p6 : 0 ≤ ((ji3) : Int) := of_decide_eq_true (by first | (with_reducible assumption) | assumption)
       have q6 : (ji3) < (a0.size : Int) := of_decide_eq_true (by first | (with_reducible assumption) | assumption)
       have hx6 := bt_at a0 (ji3)
       replace p6 := eq_true p6
       replace q6 := eq_true q6
       go_enter Try.func26, Try.ntmps26
       go_wp2_with (first | (go_at_call 43; (with_reducible refine (spec_l1Split.calls k (a0.extract 0 ((ji3) : Int).toNat) 42 t111 _ A10.out).mono ?_); rintro e w13 ⟨v112, rfl, ho0, hb⟩; have n0_ := Aside0.mk (Kd.R_lower ho0 (below_size (by repeat (first | (with_reducible first | exact HB.out | apply below_alloc | apply pw_below_drewN | apply below_drew1) | exact HB.out)))); have n1_ := Aside0.mk (below_step (by repeat (first | (with_reducible first | exact HB.out | apply below_alloc | apply pw_below_drewN | apply below_drew1) | exact HB.out)) hb); clear HB; have HO113 := n0_; have HB := n1_; clear n0_ n1_; (try clear hb); (try clear hb2); (try clear hk); (try clear hi); (try clear ho0); obtain ⟨Ao14, co14, eo14⟩ := Kd.R_slice HO113.out; subst eo14; have p114 : 0 ≤ (0 : Int) := (by omega); have q114 : 0 < (t111.length : Int) := of_decide_eq_true (by first | (with_reducible assumption) | assumption); obtain ⟨ad114, e114, hx114_0⟩ := Kd.at_string (Kd.R_reads' HO113.out).2.2 0 p114 q114; cases e114; have qi114 : (0 < t111.length) = True := eq_true (by omega); (try rw [show ((0 : Int)).toNat = 0 from rfl] at hx114_0); (try rw [Addr.add_zero'] at hx114_0); replace p114 := eq_true p114; replace q114 := eq_true q114))
       repeat (go_quiet (first | (go_at_call 43; (with_reducible refine (spec_l1Split.calls k (a0.extract 0 ((ji3) : Int).toNat) 42 t111 _ A10.out).mono ?_); rintro e w13 ⟨v112, rfl, ho0, hb⟩; have n0_ := Aside0.mk (Kd.R_lower ho0 (below_size (by repeat (first | (with_reducible first | exact HB.out | apply below_alloc | apply pw_below_drewN | apply below_drew1) | exact HB.out)))); have n1_ := Aside0.mk (below_step (by repeat (first | (with_reducible first | exact HB.out | apply below_alloc | apply pw_below_drewN | apply below_drew1) | exact HB.out)) hb); clear HB; have HO113 := n0_; have HB := n1_; clear n0_ n1_; (try clear hb); (try clear hb2); (try clear hk); (try clear hi); (try clear ho0); obtain ⟨Ao14, co14, eo14⟩ := Kd.R_slice HO113.out; subst eo14; have p114 : 0 ≤ (0 : Int) := (by omega); have q114 : 0 < (t111.length : Int) := of_decide_eq_true (by first | (with_reducible assumption) | assumption); obtain ⟨ad114, e114, hx114_0⟩ := Kd.at_string (Kd.R_reads' HO113.out).2.2 0 p114 q114; cases e114; have qi114 : (0 < t111.length) = True := eq_true (by omega); (try rw [show ((0 : Int)).toNat = 0 from rfl] at hx114_0); (try rw [Addr.add_zero'] at hx114_0); replace p114 := eq_true p114; replace q114 := eq_true q114)); try go_wp2_with (first | (go_at_call 43; (with_reducible refine (spec_l1Split.calls k (a0.extract 0 ((ji3) : Int).toNat) 42 t111 _ A10.out).mono ?_); rintro e w13 ⟨v112, rfl, ho0, hb⟩; have n0_ := Aside0.mk (Kd.R_lower ho0 (below_size (by repeat (first | (with_reducible first | exact HB.out | apply below_alloc | apply pw_below_drewN | apply below_drew1) | exact HB.out)))); have n1_ := Aside0.mk (below_step (by repeat (first | (with_reducible first | exact HB.out | apply below_alloc | apply pw_below_drewN | apply below_drew1) | exact HB.out)) hb); clear HB; have HO113 := n0_; have HB := n1_; clear n0_ n1_; (try clear hb); (try clear hb2); (try clear hk); (try clear hi); (try clear ho0); obtain ⟨Ao14, co14, eo14⟩ := Kd.R_slice HO113.out; subst eo14; have p114 : 0 ≤ (0 : Int) := (by omega); have q114 : 0 < (t111.length : Int) := of_decide_eq_true (by first | (with_reducible assumption) | assumption); obtain ⟨ad114, e114, hx114_0⟩ := Kd.at_string (Kd.R_reads' HO113.out).2.2 0 p114 q114; cases e114; have qi114 : (0 < t111.length) = True := eq_true (by omega); (try rw [show ((0 : Int)).toNat = 0 from rfl] at hx114_0); (try rw [Addr.add_zero'] at hx114_0); replace p114 := eq_true p114; replace q114 := eq_true q114)))
       go_ret
       exact ⟨by first | rfl | (simp <;> rfl) | (simp only [← hji3]; first | rfl | (simp <;> rfl)) | (simp [*] <;> rfl), by repeat (first | (with_reducible first | exact HB.out | apply below_alloc | apply pw_below_drewN | apply below_drew1) | exact HB.out)⟩
      ·rw [if_neg c12] at H
       have c12b0 : decide ((a1.size : Int) < ((rdOf ByteArray.empty t111 0).size : Int)) = false := decide_eq_false c12
       have c12b1 : decide (a1.size < (rdOf ByteArray.empty t111 0).size) = false := decide_eq_false (fun h => c12 (Int.ofNat_lt.mpr h))
       clear c12
       by_cases c15 : 0 ≤ ((rdOf ByteArray.empty t111 0).size : Int)
       ·rw [if_pos c15] at H
        have c15b0 := eq_true c15
        have c15b1 := decide_eq_true c15
        clear c15
        by_cases c16 : ((rdOf ByteArray.empty t111 0).size : Int) ≤ (a1.size : Int)
        ·rw [if_pos c16] at H
         have c16b0 := eq_true c16
         have c16b1 := decide_eq_true c16
         clear c16
         by_cases c17 : (a1.extract 0 (((rdOf ByteArray.empty t111 0).size : Int) : Int).toNat).toList = (rdOf ByteArray.empty t111 0).toList
         ·rw [if_pos c17] at H
          have c17b0 : ((a1.extract 0 (((rdOf ByteArray.empty t111 0).size : Int) : Int).toNat).toList == (rdOf ByteArray.empty t111 0).toList) = true := beq_iff_eq.mpr c17
          (try (have c17b0n := c17b0; simp only [Int.toNat_natCast] at c17b0n))
          have c17b1 : ((a1.extract 0 (((rdOf ByteArray.empty t111 0).size : Int) : Int).toNat).toList != (rdOf ByteArray.empty t111 0).toList) = false := bne_eq_false_iff_eq.mpr c17
          (try (have c17b1n := c17b1; simp only [Int.toNat_natCast] at c17b1n))
          clear c17
          replace H : (spec_l2Has.l0 k a1 true t111 ((rdOf ByteArray.empty t111 0).size : Int) 1) = some r := by first | exact H | (simp only [c17b0] at H; exact H)
          have H' := Aside0.mk H
          clear H
          have p6 : 0 ≤ ((ji3) : Int) := of_decide_eq_true (by first | (with_reducible assumption) | assumption)
          have q6 : (ji3) < (a0.size : Int) := of_decide_eq_true (by first | (with_reducible assumption) | assumption)
          have hx6 := bt_at a0 (ji3)
          replace p6 := eq_true p6
          replace q6 := eq_true q6
          go_enter Try.func26, Try.ntmps26
          go_wp2_with (first | (go_at_call 43; (with_reducible refine (spec_l1Split.calls k (a0.extract 0 ((ji3) : Int).toNat) 42 t111 _ A10.out).mono ?_); rintro e w18 ⟨v112, rfl, ho0, hb⟩; have n0_ := Aside0.mk (Kd.R_lower ho0 (below_size (by repeat (first | (with_reducible first | exact HB.out | apply below_alloc | apply pw_below_drewN | apply below_drew1) | exact HB.out)))); have n1_ := Aside0.mk (below_step (by repeat (first | (with_reducible first | exact HB.out | apply below_alloc | apply pw_below_drewN | apply below_drew1) | exact HB.out)) hb); clear HB; have HO113 := n0_; have HB := n1_; clear n0_ n1_; (try clear hb); (try clear hb2); (try clear hk); (try clear hi); (try clear ho0); obtain ⟨Ao19, co19, eo19⟩ := Kd.R_slice HO113.out; subst eo19; have p114 : 0 ≤ (0 : Int) := (by omega); have q114 : 0 < (t111.length : Int) := of_decide_eq_true (by first | (with_reducible assumption) | assumption); obtain ⟨ad114, e114, hx114_0⟩ := Kd.at_string (Kd.R_reads' HO113.out).2.2 0 p114 q114; cases e114; have qi114 : (0 < t111.length) = True := eq_true (by omega); (try rw [show ((0 : Int)).toNat = 0 from rfl] at hx114_0); (try rw [Addr.add_zero'] at hx114_0); replace p114 := eq_true p114; replace q114 := eq_true q114; have p115 : 0 ≤ (0 : Int) := (by omega); have q115 : 0 < (t111.length : Int) := of_decide_eq_true (by first | (with_reducible assumption) | assumption); obtain ⟨ad115, e115, hx115_0⟩ := Kd.at_string (Kd.R_reads' HO113.out).2.2 0 p115 q115; obtain rfl : ad114 = ad115 := (by injection e115); have qi115 : (0 < t111.length) = True := eq_true (by omega); (try rw [show ((0 : Int)).toNat = 0 from rfl] at hx115_0); (try rw [Addr.add_zero'] at hx115_0); replace p115 := eq_true p115; replace q115 := eq_true q115))
          repeat (go_quiet (first | (go_at_call 43; (with_reducible refine (spec_l1Split.calls k (a0.extract 0 ((ji3) : Int).toNat) 42 t111 _ A10.out).mono ?_); rintro e w18 ⟨v112, rfl, ho0, hb⟩; have n0_ := Aside0.mk (Kd.R_lower ho0 (below_size (by repeat (first | (with_reducible first | exact HB.out | apply below_alloc | apply pw_below_drewN | apply below_drew1) | exact HB.out)))); have n1_ := Aside0.mk (below_step (by repeat (first | (with_reducible first | exact HB.out | apply below_alloc | apply pw_below_drewN | apply below_drew1) | exact HB.out)) hb); clear HB; have HO113 := n0_; have HB := n1_; clear n0_ n1_; (try clear hb); (try clear hb2); (try clear hk); (try clear hi); (try clear ho0); obtain ⟨Ao19, co19, eo19⟩ := Kd.R_slice HO113.out; subst eo19; have p114 : 0 ≤ (0 : Int) := (by omega); have q114 : 0 < (t111.length : Int) := of_decide_eq_true (by first | (with_reducible assumption) | assumption); obtain ⟨ad114, e114, hx114_0⟩ := Kd.at_string (Kd.R_reads' HO113.out).2.2 0 p114 q114; cases e114; have qi114 : (0 < t111.length) = True := eq_true (by omega); (try rw [show ((0 : Int)).toNat = 0 from rfl] at hx114_0); (try rw [Addr.add_zero'] at hx114_0); replace p114 := eq_true p114; replace q114 := eq_true q114; have p115 : 0 ≤ (0 : Int) := (by omega); have q115 : 0 < (t111.length : Int) := of_decide_eq_true (by first | (with_reducible assumption) | assumption); obtain ⟨ad115, e115, hx115_0⟩ := Kd.at_string (Kd.R_reads' HO113.out).2.2 0 p115 q115; obtain rfl : ad114 = ad115 := (by injection e115); have qi115 : (0 < t111.length) = True := eq_true (by omega); (try rw [show ((0 : Int)).toNat = 0 from rfl] at hx115_0); (try rw [Addr.add_zero'] at hx115_0); replace p115 := eq_true p115; replace q115 := eq_true q115)); try go_wp2_with (first | (go_at_call 43; (with_reducible refine (spec_l1Split.calls k (a0.extract 0 ((ji3) : Int).toNat) 42 t111 _ A10.out).mono ?_); rintro e w18 ⟨v112, rfl, ho0, hb⟩; have n0_ := Aside0.mk (Kd.R_lower ho0 (below_size (by repeat (first | (with_reducible first | exact HB.out | apply below_alloc | apply pw_below_drewN | apply below_drew1) | exact HB.out)))); have n1_ := Aside0.mk (below_step (by repeat (first | (with_reducible first | exact HB.out | apply below_alloc | apply pw_below_drewN | apply below_drew1) | exact HB.out)) hb); clear HB; have HO113 := n0_; have HB := n1_; clear n0_ n1_; (try clear hb); (try clear hb2); (try clear hk); (try clear hi); (try clear ho0); obtain ⟨Ao19, co19, eo19⟩ := Kd.R_slice HO113.out; subst eo19; have p114 : 0 ≤ (0 : Int) := (by omega); have q114 : 0 < (t111.length : Int) := of_decide_eq_true (by first | (with_reducible assumption) | assumption); obtain ⟨ad114, e114, hx114_0⟩ := Kd.at_string (Kd.R_reads' HO113.out).2.2 0 p114 q114; cases e114; have qi114 : (0 < t111.length) = True := eq_true (by omega); (try rw [show ((0 : Int)).toNat = 0 from rfl] at hx114_0); (try rw [Addr.add_zero'] at hx114_0); replace p114 := eq_true p114; replace q114 := eq_true q114; have p115 : 0 ≤ (0 : Int) := (by omega); have q115 : 0 < (t111.length : Int) := of_decide_eq_true (by first | (with_reducible assumption) | assumption); obtain ⟨ad115, e115, hx115_0⟩ := Kd.at_string (Kd.R_reads' HO113.out).2.2 0 p115 q115; obtain rfl : ad114 = ad115 := (by injection e115); have qi115 : (0 < t111.length) = True := eq_true (by omega); (try rw [show ((0 : Int)).toNat = 0 from rfl] at hx115_0); (try rw [Addr.add_zero'] at hx115_0); replace p115 := eq_true p115; replace q115 := eq_true q115)))
          go_loopg [7, 8] k (fun kq v7 v8 w' => ∃ (x7_1 : Int) (x8_1 : Int), v7 = .int .i64 x7_1 ∧ v8 = .int .i64 x8_1 ∧ Aside0 (spec_l2Has.l0 kq a1 true t111 x7_1 x8_1 = some r) ∧ Aside0 (kq ≤ k) ∧ Aside0 (Kd.R Kd.string 9 w' w.heap.size (fun _ => True) (.slice (some ad114) t111.length co19) t111) ∧ Aside0 (Below w.heap.size w w'))
          case atStart => exact ⟨(((rdOf ByteArray.empty t111 0).size : Int)), (1), (by first | rfl | (simp; done) | (simp only [i64_w, i32_w]; done) | (simp only [i64_w, i32_w]; rfl) | (simp [*]; done) | (simp [emp_bne, emp_beq]; done)), (by first | rfl | (simp; done) | (simp only [i64_w, i32_w]; done) | (simp only [i64_w, i32_w]; rfl) | (simp [*]; done) | (simp [emp_bne, emp_beq]; done)), H', ⟨Nat.le_refl _⟩, ⟨by (with_reducible repeat (first | apply Kd.R_alloc | apply Kd.R_drewN | apply Kd.R_drew)); exact HO113.out⟩, ⟨by repeat (first | (with_reducible first | exact HB.out | apply below_alloc | apply pw_below_drewN | apply below_drew1) | exact HB.out)⟩⟩
          case round =>
           clear H'
           try clear c1
           try clear p1
           try clear q1
           try clear hx1
           try clear qi1
           try clear c2
           try clear p2
           try clear c4
           try clear c4b0
           try clear c5
           try clear c5b0
           try clear p6
           try clear q6
           try clear hx6
           try clear c7
           try clear c7b0
           try clear c7b1
           try clear c8
           try clear c8b0
           try clear c9
           try clear c9b0
           try clear c9b1
           try clear c11
           try clear c11b0
           try clear c11b1
           try clear p11
           try clear q11
           try clear hx11
           try clear qi11
           try clear c12
           try clear c12b0
           try clear c12b1
           try clear c15
           try clear c15b0
           try clear c15b1
           try clear c16
           try clear c16b0
           try clear c16b1
           try clear c17
           try clear c17b0
           try clear c17b1
           try clear hx114_0
           try clear hx115_0
           try clear p114
           try clear p115
           try clear p6
           try clear q114
           try clear q115
           try clear q6
           obtain ⟨x7_1, x8_1, rfl, rfl, HA, HK1, HO_6, HB⟩ := hrel
           cases gk with
           | zero => exact absurd HA.out (by simp [spec_l2Has.l0])
           | succ k1 =>
            have H := HA.out
            clear HA
            simp only [spec_l2Has.l0] at H
            by_cases c20 : x8_1 < (t111.length : Int)
            ·rw [if_pos c20] at H
             have c20b0 : decide (x8_1 < (t111.length : Int)) = true := decide_eq_true c20
             clear c20
             have H1 : (if x8_1 = (wrap64 ((t111.length : Int) - 1)) then (if 0 ≤ x8_1 then (if (wrap64 ((a1.size : Int) - ((rdOf ByteArray.empty t111 x8_1).size : Int))) ≥ x7_1 then (if 0 ≤ (wrap64 ((a1.size : Int) - ((rdOf ByteArray.empty t111 x8_1).size : Int))) then (if (wrap64 ((a1.size : Int) - ((rdOf ByteArray.empty t111 x8_1).size : Int))) ≤ (a1.size : Int) then (some ((a1.extract ((wrap64 ((a1.size : Int) - ((rdOf ByteArray.empty t111 x8_1).size : Int))) : Int).toNat a1.size).toList == (rdOf ByteArray.empty t111 x8_1).toList)) else (none)) else (none)) else (some false)) else (none)) else (if 0 ≤ x8_1 then ((spec_l2Find.f k1 a1 (rdOf ByteArray.empty t111 x8_1) x7_1).bind fun t119 => (if t119 < 0 then (some false) else (spec_l2Has.l0 k1 a1 true t111 (wrap64 (t119 + ((rdOf ByteArray.empty t111 x8_1).size : Int))) (wrap64 (x8_1 + 1))))) else (none))) = some r := by first | (rw [if_pos rfl] at H; exact H) | (rw [if_pos trivial] at H; exact H) | exact H
             clear H
             have H := H1
             clear H1
             by_cases c21 : x8_1 = (wrap64 ((t111.length : Int) - 1))
             ·rw [if_pos c21] at H
              have c21b0 : (x8_1 == (wrap64 ((t111.length : Int) - 1))) = true := beq_iff_eq.mpr c21
              have c21b1 : (x8_1 != (wrap64 ((t111.length : Int) - 1))) = false := bne_eq_false_iff_eq.mpr c21
              clear c21
              replace H : (if 0 ≤ x8_1 then (if (wrap64 ((a1.size : Int) - ((rdOf ByteArray.empty t111 x8_1).size : Int))) ≥ x7_1 then (if 0 ≤ (wrap64 ((a1.size : Int) - ((rdOf ByteArray.empty t111 x8_1).size : Int))) then (if (wrap64 ((a1.size : Int) - ((rdOf ByteArray.empty t111 x8_1).size : Int))) ≤ (a1.size : Int) then (some ((a1.extract ((wrap64 ((a1.size : Int) - ((rdOf ByteArray.empty t111 x8_1).size : Int))) : Int).toNat a1.size).toList == (rdOf ByteArray.empty t111 x8_1).toList)) else (none)) else (none)) else (some false)) else (none)) = some r := by first | exact H | (simp only [c21b0] at H; exact H)
              by_cases c22 : 0 ≤ x8_1
              ·rw [if_pos c22] at H
               have c22b0 : decide (0 ≤ x8_1) = true := decide_eq_true c22
               clear c22
               by_cases c23 : (wrap64 ((a1.size : Int) - ((rdOf ByteArray.empty t111 x8_1).size : Int))) ≥ x7_1
               ·rw [if_pos c23] at H
                have c23b0 : decide (x7_1 ≤ (wrap64 ((a1.size : Int) - ((rdOf ByteArray.empty t111 x8_1).size : Int)))) = true := decide_eq_true c23
                clear c23
                obtain ⟨ji24, hji24⟩ : ∃ j_ : Int, (wrap64 ((a1.size : Int) - ((rdOf ByteArray.empty t111 x8_1).size : Int))) = j_ := ⟨_, rfl⟩
                replace H : (if 0 ≤ (ji24) then (if (ji24) ≤ (a1.size : Int) then (some ((a1.extract ((ji24) : Int).toNat a1.size).toList == (rdOf ByteArray.empty t111 x8_1).toList)) else (none)) else (none)) = some r := by first | (rw [hji24] at H; exact H) | (simp only [hji24] at H ⊢; exact H)
                (try rw [hji24] at c23b0)
                have hji24w : (IntKind.i64.wrap ((a1.size : Int) - ((rdOf ByteArray.empty t111 x8_1).size : Int))) = ji24 := (i64_w _).trans hji24
                by_cases c25 : 0 ≤ (ji24)
                ·rw [if_pos c25] at H
                 have c25b0 := eq_true c25
                 have c25b1 := decide_eq_true c25
                 clear c25
                 by_cases c26 : (ji24) ≤ (a1.size : Int)
                 ·rw [if_pos c26] at H
                  have c26b0 := eq_true c26
                  have c26b1 := decide_eq_true c26
                  clear c26
                  obtain rfl := Option.some.inj H
                  have p116 : 0 ≤ (x8_1 : Int) := of_decide_eq_true (by first | (with_reducible assumption) | assumption)
                  have q116 : x8_1 < (t111.length : Int) := of_decide_eq_true (by first | (with_reducible assumption) | assumption)
                  obtain ⟨ad116, e116, hx116_0⟩ := Kd.at_string (Kd.R_reads' HO_6.out).2.2 x8_1 p116 q116
                  obtain rfl : ad114 = ad116 := (by injection e116)
                  replace p116 := eq_true p116
                  replace q116 := eq_true q116
                  have p117 : 0 ≤ (x8_1 : Int) := of_decide_eq_true (by first | (with_reducible assumption) | assumption)
                  have q117 : x8_1 < (t111.length : Int) := of_decide_eq_true (by first | (with_reducible assumption) | assumption)
                  obtain ⟨ad117, e117, hx117_0⟩ := Kd.at_string (Kd.R_reads' HO_6.out).2.2 x8_1 p117 q117
                  obtain rfl : ad114 = ad117 := (by injection e117)
                  replace p117 := eq_true p117
                  replace q117 := eq_true q117
                  go_wp2
                  repeat (go_quiet (fail); try go_wp2)
                  go_ret
                  exact ⟨by first | rfl | (simp <;> rfl) | (simp only [← hji3, ← hji24]; first | rfl | (simp <;> rfl)) | (simp [*] <;> rfl), by repeat (first | (with_reducible first | exact HB.out | apply below_alloc | apply pw_below_drewN | apply below_drew1) | exact HB.out)⟩
                 ·rw [if_neg c26] at H
                  exact absurd H (by simp)
                ·rw [if_neg c25] at H
                 exact absurd H (by simp)
               ·rw [if_neg c23] at H
                have c23b0 : decide (x7_1 ≤ (wrap64 ((a1.size : Int) - ((rdOf ByteArray.empty t111 x8_1).size : Int)))) = false := decide_eq_false c23
                clear c23
                obtain rfl := Option.some.inj H
                have p116 : 0 ≤ (x8_1 : Int) := of_decide_eq_true (by first | (with_reducible assumption) | assumption)
                have q116 : x8_1 < (t111.length : Int) := of_decide_eq_true (by first | (with_reducible assumption) | assumption)
                obtain ⟨ad116, e116, hx116_0⟩ := Kd.at_string (Kd.R_reads' HO_6.out).2.2 x8_1 p116 q116
                obtain rfl : ad114 = ad116 := (by injection e116)
                replace p116 := eq_true p116
                replace q116 := eq_true q116
                go_wp2
                repeat (go_quiet (fail); try go_wp2)
                go_ret
                exact ⟨by first | rfl | (simp <;> rfl) | (simp only [← hji3]; first | rfl | (simp <;> rfl)) | (simp [*] <;> rfl), by repeat (first | (with_reducible first | exact HB.out | apply below_alloc | apply pw_below_drewN | apply below_drew1) | exact HB.out)⟩
              ·rw [if_neg c22] at H
               exact absurd H (by simp)
             ·rw [if_neg c21] at H
              have c21b0 : (x8_1 == (wrap64 ((t111.length : Int) - 1))) = false := beq_eq_false_iff_ne.mpr c21
              have c21b1 : (x8_1 != (wrap64 ((t111.length : Int) - 1))) = true := bne_iff_ne.mpr c21
              replace H : (if 0 ≤ x8_1 then ((spec_l2Find.f k1 a1 (rdOf ByteArray.empty t111 x8_1) x7_1).bind fun t119 => (if t119 < 0 then (some false) else (spec_l2Has.l0 k1 a1 true t111 (wrap64 (t119 + ((rdOf ByteArray.empty t111 x8_1).size : Int))) (wrap64 (x8_1 + 1))))) else (none)) = some r := by first | exact H | (simp only [c21b0] at H; exact H)
              by_cases c27 : 0 ≤ x8_1
              ·rw [if_pos c27] at H
               have c27b0 : decide (0 ≤ x8_1) = true := decide_eq_true c27
               clear c27
               replace H := Option.bind_eq_some_iff.mp H
               obtain ⟨t119, A280, H⟩ := H
               replace H : (if t119 < 0 then (some false) else (spec_l2Has.l0 k1 a1 true t111 (wrap64 (t119 + ((rdOf ByteArray.empty t111 x8_1).size : Int))) (wrap64 (x8_1 + 1)))) = some r := H
               have A28 := Aside0.mk A280
               clear A280
               by_cases c29 : t119 < 0
               ·rw [if_pos c29] at H
                have c29b0 : decide (t119 < 0) = true := decide_eq_true c29
                clear c29
                obtain rfl := Option.some.inj H
                have p118 : 0 ≤ (x8_1 : Int) := of_decide_eq_true (by first | (with_reducible assumption) | assumption)
                have q118 : x8_1 < (t111.length : Int) := of_decide_eq_true (by first | (with_reducible assumption) | assumption)
                obtain ⟨ad118, e118, hx118_0⟩ := Kd.at_string (Kd.R_reads' HO_6.out).2.2 x8_1 p118 q118
                obtain rfl : ad114 = ad118 := (by injection e118)
                replace p118 := eq_true p118
                replace q118 := eq_true q118
                go_wp2_with (first | (go_at_call 44; (with_reducible refine (spec_l2Find.calls k1 a1 (rdOf ByteArray.empty t111 x8_1) x7_1 t119 _ A28.out).mono ?_); rintro e w' ⟨rfl, ⟨nd, rfl⟩⟩; (try first | exact ⟨rfl, _, World.drewN_drewN _ _ _⟩ | exact ⟨rfl, _, Eq.trans (World.drewN_drewN _ _ _) (congrArg (World.drewN _) (Nat.add_assoc _ _ _))⟩)))
                repeat (go_quiet (first | (go_at_call 44; (with_reducible refine (spec_l2Find.calls k1 a1 (rdOf ByteArray.empty t111 x8_1) x7_1 t119 _ A28.out).mono ?_); rintro e w' ⟨rfl, ⟨nd, rfl⟩⟩; (try first | exact ⟨rfl, _, World.drewN_drewN _ _ _⟩ | exact ⟨rfl, _, Eq.trans (World.drewN_drewN _ _ _) (congrArg (World.drewN _) (Nat.add_assoc _ _ _))⟩))); try go_wp2_with (first | (go_at_call 44; (with_reducible refine (spec_l2Find.calls k1 a1 (rdOf ByteArray.empty t111 x8_1) x7_1 t119 _ A28.out).mono ?_); rintro e w' ⟨rfl, ⟨nd, rfl⟩⟩; (try first | exact ⟨rfl, _, World.drewN_drewN _ _ _⟩ | exact ⟨rfl, _, Eq.trans (World.drewN_drewN _ _ _) (congrArg (World.drewN _) (Nat.add_assoc _ _ _))⟩))))
                go_ret
                exact ⟨by first | rfl | (simp <;> rfl) | (simp only [← hji3]; first | rfl | (simp <;> rfl)) | (simp [*] <;> rfl), by repeat (first | (with_reducible first | exact HB.out | apply below_alloc | apply pw_below_drewN | apply below_drew1) | exact HB.out)⟩
               ·rw [if_neg c29] at H
                have c29b0 : decide (t119 < 0) = false := decide_eq_false c29
                clear c29
                have H' := Aside0.mk H
                clear H
                have p118 : 0 ≤ (x8_1 : Int) := of_decide_eq_true (by first | (with_reducible assumption) | assumption)
                have q118 : x8_1 < (t111.length : Int) := of_decide_eq_true (by first | (with_reducible assumption) | assumption)
                obtain ⟨ad118, e118, hx118_0⟩ := Kd.at_string (Kd.R_reads' HO_6.out).2.2 x8_1 p118 q118
                obtain rfl : ad114 = ad118 := (by injection e118)
                replace p118 := eq_true p118
                replace q118 := eq_true q118
                go_wp2_with (first | (go_at_call 44; (with_reducible refine (spec_l2Find.calls k1 a1 (rdOf ByteArray.empty t111 x8_1) x7_1 t119 _ A28.out).mono ?_); rintro e w' ⟨rfl, ⟨nd, rfl⟩⟩; (try first | exact ⟨rfl, _, World.drewN_drewN _ _ _⟩ | exact ⟨rfl, _, Eq.trans (World.drewN_drewN _ _ _) (congrArg (World.drewN _) (Nat.add_assoc _ _ _))⟩); have p120 : 0 ≤ (x8_1 : Int) := of_decide_eq_true (by first | (with_reducible assumption) | assumption); have q120 : x8_1 < (t111.length : Int) := of_decide_eq_true (by first | (with_reducible assumption) | assumption); obtain ⟨ad120, e120, hx120_0⟩ := Kd.at_string (Kd.R_reads' HO_6.out).2.2 x8_1 p120 q120; obtain rfl : ad114 = ad120 := (by injection e120); replace p120 := eq_true p120; replace q120 := eq_true q120))
                repeat (go_quiet (first | (go_at_call 44; (with_reducible refine (spec_l2Find.calls k1 a1 (rdOf ByteArray.empty t111 x8_1) x7_1 t119 _ A28.out).mono ?_); rintro e w' ⟨rfl, ⟨nd, rfl⟩⟩; (try first | exact ⟨rfl, _, World.drewN_drewN _ _ _⟩ | exact ⟨rfl, _, Eq.trans (World.drewN_drewN _ _ _) (congrArg (World.drewN _) (Nat.add_assoc _ _ _))⟩); have p120 : 0 ≤ (x8_1 : Int) := of_decide_eq_true (by first | (with_reducible assumption) | assumption); have q120 : x8_1 < (t111.length : Int) := of_decide_eq_true (by first | (with_reducible assumption) | assumption); obtain ⟨ad120, e120, hx120_0⟩ := Kd.at_string (Kd.R_reads' HO_6.out).2.2 x8_1 p120 q120; obtain rfl : ad114 = ad120 := (by injection e120); replace p120 := eq_true p120; replace q120 := eq_true q120)); try go_wp2_with (first | (go_at_call 44; (with_reducible refine (spec_l2Find.calls k1 a1 (rdOf ByteArray.empty t111 x8_1) x7_1 t119 _ A28.out).mono ?_); rintro e w' ⟨rfl, ⟨nd, rfl⟩⟩; (try first | exact ⟨rfl, _, World.drewN_drewN _ _ _⟩ | exact ⟨rfl, _, Eq.trans (World.drewN_drewN _ _ _) (congrArg (World.drewN _) (Nat.add_assoc _ _ _))⟩); have p120 : 0 ≤ (x8_1 : Int) := of_decide_eq_true (by first | (with_reducible assumption) | assumption); have q120 : x8_1 < (t111.length : Int) := of_decide_eq_true (by first | (with_reducible assumption) | assumption); obtain ⟨ad120, e120, hx120_0⟩ := Kd.at_string (Kd.R_reads' HO_6.out).2.2 x8_1 p120 q120; obtain rfl : ad114 = ad120 := (by injection e120); replace p120 := eq_true p120; replace q120 := eq_true q120)))
                go_roundg k1
                case measure => have := HK1.out; omega
                case rel => exact ⟨(wrap64 (t119 + ((rdOf ByteArray.empty t111 x8_1).size : Int))), (wrap64 (x8_1 + 1)), (by first | rfl | (simp; done) | (simp only [i64_w, i32_w]; done) | (simp only [i64_w, i32_w]; rfl) | (simp [*]; done) | (simp [emp_bne, emp_beq]; done)), (by first | rfl | (simp; done) | (simp only [i64_w, i32_w]; done) | (simp only [i64_w, i32_w]; rfl) | (simp [*]; done) | (simp [emp_bne, emp_beq]; done)), H', ⟨by have := HK1.out; omega⟩, ⟨by (with_reducible repeat (first | apply Kd.R_alloc | apply Kd.R_drewN | apply Kd.R_drew)); exact HO_6.out⟩, ⟨by repeat (first | (with_reducible first | exact HB.out | apply below_alloc | apply pw_below_drewN | apply below_drew1) | exact HB.out)⟩⟩
              ·rw [if_neg c27] at H
               exact absurd H (by simp)
            ·rw [if_neg c20] at H
             have c20b0 : decide (x8_1 < (t111.length : Int)) = false := decide_eq_false c20
             clear c20
             have H1 : (some (x7_1 == (a1.size : Int))) = some r := by first | (rw [if_pos rfl] at H; exact H) | (rw [if_pos trivial] at H; exact H) | exact H
             clear H
             have H := H1
             clear H1
             obtain rfl := Option.some.inj H
             go_wp2
             repeat (go_quiet (fail); try go_wp2)
             go_ret
             exact ⟨by first | rfl | (simp <;> rfl) | (simp only [← hji3]; first | rfl | (simp <;> rfl)) | (simp [*] <;> rfl), by repeat (first | (with_reducible first | exact HB.out | apply below_alloc | apply pw_below_drewN | apply below_drew1) | exact HB.out)⟩
         ·rw [if_neg c17] at H
          have c17b0 : ((a1.extract 0 (((rdOf ByteArray.empty t111 0).size : Int) : Int).toNat).toList == (rdOf ByteArray.empty t111 0).toList) = false := beq_eq_false_iff_ne.mpr c17
          (try (have c17b0n := c17b0; simp only [Int.toNat_natCast] at c17b0n))
          have c17b1 : ((a1.extract 0 (((rdOf ByteArray.empty t111 0).size : Int) : Int).toNat).toList != (rdOf ByteArray.empty t111 0).toList) = true := bne_iff_ne.mpr c17
          (try (have c17b1n := c17b1; simp only [Int.toNat_natCast] at c17b1n))
          replace H : (some false) = some r := by first | exact H | (simp only [c17b0] at H; exact H)
          obtain rfl := Option.some.inj H
          have p6 : 0 ≤ ((ji3) : Int) := of_decide_eq_true (by first | (with_reducible assumption) | assumption)
          have q6 : (ji3) < (a0.size : Int) := of_decide_eq_true (by first | (with_reducible assumption) | assumption)
          have hx6 := bt_at a0 (ji3)
          replace p6 := eq_true p6
          replace q6 := eq_true q6
          go_enter Try.func26, Try.ntmps26
          go_wp2_with (first | (go_at_call 43; (with_reducible refine (spec_l1Split.calls k (a0.extract 0 ((ji3) : Int).toNat) 42 t111 _ A10.out).mono ?_); rintro e w30 ⟨v112, rfl, ho0, hb⟩; have n0_ := Aside0.mk (Kd.R_lower ho0 (below_size (by repeat (first | (with_reducible first | exact HB.out | apply below_alloc | apply pw_below_drewN | apply below_drew1) | exact HB.out)))); have n1_ := Aside0.mk (below_step (by repeat (first | (with_reducible first | exact HB.out | apply below_alloc | apply pw_below_drewN | apply below_drew1) | exact HB.out)) hb); clear HB; have HO113 := n0_; have HB := n1_; clear n0_ n1_; (try clear hb); (try clear hb2); (try clear hk); (try clear hi); (try clear ho0); obtain ⟨Ao31, co31, eo31⟩ := Kd.R_slice HO113.out; subst eo31; have p114 : 0 ≤ (0 : Int) := (by omega); have q114 : 0 < (t111.length : Int) := of_decide_eq_true (by first | (with_reducible assumption) | assumption); obtain ⟨ad114, e114, hx114_0⟩ := Kd.at_string (Kd.R_reads' HO113.out).2.2 0 p114 q114; cases e114; have qi114 : (0 < t111.length) = True := eq_true (by omega); (try rw [show ((0 : Int)).toNat = 0 from rfl] at hx114_0); (try rw [Addr.add_zero'] at hx114_0); replace p114 := eq_true p114; replace q114 := eq_true q114; have p115 : 0 ≤ (0 : Int) := (by omega); have q115 : 0 < (t111.length : Int) := of_decide_eq_true (by first | (with_reducible assumption) | assumption); obtain ⟨ad115, e115, hx115_0⟩ := Kd.at_string (Kd.R_reads' HO113.out).2.2 0 p115 q115; obtain rfl : ad114 = ad115 := (by injection e115); have qi115 : (0 < t111.length) = True := eq_true (by omega); (try rw [show ((0 : Int)).toNat = 0 from rfl] at hx115_0); (try rw [Addr.add_zero'] at hx115_0); replace p115 := eq_true p115; replace q115 := eq_true q115))
          repeat (go_quiet (first | (go_at_call 43; (with_reducible refine (spec_l1Split.calls k (a0.extract 0 ((ji3) : Int).toNat) 42 t111 _ A10.out).mono ?_); rintro e w30 ⟨v112, rfl, ho0, hb⟩; have n0_ := Aside0.mk (Kd.R_lower ho0 (below_size (by repeat (first | (with_reducible first | exact HB.out | apply below_alloc | apply pw_below_drewN | apply below_drew1) | exact HB.out)))); have n1_ := Aside0.mk (below_step (by repeat (first | (with_reducible first | exact HB.out | apply below_alloc | apply pw_below_drewN | apply below_drew1) | exact HB.out)) hb); clear HB; have HO113 := n0_; have HB := n1_; clear n0_ n1_; (try clear hb); (try clear hb2); (try clear hk); (try clear hi); (try clear ho0); obtain ⟨Ao31, co31, eo31⟩ := Kd.R_slice HO113.out; subst eo31; have p114 : 0 ≤ (0 : Int) := (by omega); have q114 : 0 < (t111.length : Int) := of_decide_eq_true (by first | (with_reducible assumption) | assumption); obtain ⟨ad114, e114, hx114_0⟩ := Kd.at_string (Kd.R_reads' HO113.out).2.2 0 p114 q114; cases e114; have qi114 : (0 < t111.length) = True := eq_true (by omega); (try rw [show ((0 : Int)).toNat = 0 from rfl] at hx114_0); (try rw [Addr.add_zero'] at hx114_0); replace p114 := eq_true p114; replace q114 := eq_true q114; have p115 : 0 ≤ (0 : Int) := (by omega); have q115 : 0 < (t111.length : Int) := of_decide_eq_true (by first | (with_reducible assumption) | assumption); obtain ⟨ad115, e115, hx115_0⟩ := Kd.at_string (Kd.R_reads' HO113.out).2.2 0 p115 q115; obtain rfl : ad114 = ad115 := (by injection e115); have qi115 : (0 < t111.length) = True := eq_true (by omega); (try rw [show ((0 : Int)).toNat = 0 from rfl] at hx115_0); (try rw [Addr.add_zero'] at hx115_0); replace p115 := eq_true p115; replace q115 := eq_true q115)); try go_wp2_with (first | (go_at_call 43; (with_reducible refine (spec_l1Split.calls k (a0.extract 0 ((ji3) : Int).toNat) 42 t111 _ A10.out).mono ?_); rintro e w30 ⟨v112, rfl, ho0, hb⟩; have n0_ := Aside0.mk (Kd.R_lower ho0 (below_size (by repeat (first | (with_reducible first | exact HB.out | apply below_alloc | apply pw_below_drewN | apply below_drew1) | exact HB.out)))); have n1_ := Aside0.mk (below_step (by repeat (first | (with_reducible first | exact HB.out | apply below_alloc | apply pw_below_drewN | apply below_drew1) | exact HB.out)) hb); clear HB; have HO113 := n0_; have HB := n1_; clear n0_ n1_; (try clear hb); (try clear hb2); (try clear hk); (try clear hi); (try clear ho0); obtain ⟨Ao31, co31, eo31⟩ := Kd.R_slice HO113.out; subst eo31; have p114 : 0 ≤ (0 : Int) := (by omega); have q114 : 0 < (t111.length : Int) := of_decide_eq_true (by first | (with_reducible assumption) | assumption); obtain ⟨ad114, e114, hx114_0⟩ := Kd.at_string (Kd.R_reads' HO113.out).2.2 0 p114 q114; cases e114; have qi114 : (0 < t111.length) = True := eq_true (by omega); (try rw [show ((0 : Int)).toNat = 0 from rfl] at hx114_0); (try rw [Addr.add_zero'] at hx114_0); replace p114 := eq_true p114; replace q114 := eq_true q114; have p115 : 0 ≤ (0 : Int) := (by omega); have q115 : 0 < (t111.length : Int) := of_decide_eq_true (by first | (with_reducible assumption) | assumption); obtain ⟨ad115, e115, hx115_0⟩ := Kd.at_string (Kd.R_reads' HO113.out).2.2 0 p115 q115; obtain rfl : ad114 = ad115 := (by injection e115); have qi115 : (0 < t111.length) = True := eq_true (by omega); (try rw [show ((0 : Int)).toNat = 0 from rfl] at hx115_0); (try rw [Addr.add_zero'] at hx115_0); replace p115 := eq_true p115; replace q115 := eq_true q115)))
          go_ret
          exact ⟨by first | rfl | (simp <;> rfl) | (simp only [← hji3]; first | rfl | (simp <;> rfl)) | (simp [*] <;> rfl), by repeat (first | (with_reducible first | exact HB.out | apply below_alloc | apply pw_below_drewN | apply below_drew1) | exact HB.out)⟩
        ·rw [if_neg c16] at H
         exact absurd H (by simp)
       ·rw [if_neg c15] at H
        exact absurd H (by simp)
     ·rw [if_neg c11] at H
      exact absurd H (by simp)
    ·rw [if_neg c9] at H
     exact absurd H (by simp)
   ·rw [if_neg c7] at H
    have c7b0 : ((bt a0 (ji3)) == 36) = false := beq_eq_false_iff_ne.mpr c7
    have c7b1 : ((bt a0 (ji3)) != 36) = true := bne_iff_ne.mpr c7
    replace H : ((spec_l1Split.f k a0 42).bind fun t124 => (if 0 < (t124.length : Int) then (if ((rdOf ByteArray.empty t124 0).size : Int) > (a1.size : Int) then (some false) else (if 0 ≤ ((rdOf ByteArray.empty t124 0).size : Int) then (if ((rdOf ByteArray.empty t124 0).size : Int) ≤ (a1.size : Int) then (if (a1.extract 0 (((rdOf ByteArray.empty t124 0).size : Int) : Int).toNat).toList = (rdOf ByteArray.empty t124 0).toList then (spec_l2Has.l0 k a1 false t124 ((rdOf ByteArray.empty t124 0).size : Int) 1) else (some false)) else (none)) else (none))) else (none))) = some r := by first | exact H | (simp only [c7b0] at H; exact H)
    replace H := Option.bind_eq_some_iff.mp H
    obtain ⟨t124, A320, H⟩ := H
    replace H : (if 0 < (t124.length : Int) then (if ((rdOf ByteArray.empty t124 0).size : Int) > (a1.size : Int) then (some false) else (if 0 ≤ ((rdOf ByteArray.empty t124 0).size : Int) then (if ((rdOf ByteArray.empty t124 0).size : Int) ≤ (a1.size : Int) then (if (a1.extract 0 (((rdOf ByteArray.empty t124 0).size : Int) : Int).toNat).toList = (rdOf ByteArray.empty t124 0).toList then (spec_l2Has.l0 k a1 false t124 ((rdOf ByteArray.empty t124 0).size : Int) 1) else (some false)) else (none)) else (none))) else (none)) = some r := H
    have A32 := Aside0.mk A320
    clear A320
    by_cases c33 : 0 < (t124.length : Int)
    ·rw [if_pos c33] at H
     have c33b0 : decide (0 < (t124.length : Int)) = true := decide_eq_true c33
     have c33b1 : decide (0 < t124.length) = true := decide_eq_true (by omega)
     clear c33
     by_cases c34 : ((rdOf ByteArray.empty t124 0).size : Int) > (a1.size : Int)
     ·rw [if_pos c34] at H
      have c34b0 : decide ((a1.size : Int) < ((rdOf ByteArray.empty t124 0).size : Int)) = true := decide_eq_true c34
      have c34b1 : decide (a1.size < (rdOf ByteArray.empty t124 0).size) = true := decide_eq_true (Int.ofNat_lt.mp c34)
      clear c34
      obtain rfl := Option.some.inj H
      have p6 : 0 ≤ ((ji3) : Int) := of_decide_eq_true (by first | (with_reducible assumption) | assumption)
      have q6 : (ji3) < (a0.size : Int) := of_decide_eq_true (by first | (with_reducible assumption) | assumption)
      have hx6 := bt_at a0 (ji3)
      replace p6 := eq_true p6
      replace q6 := eq_true q6
      go_enter Try.func26, Try.ntmps26
      go_wp2_with (first | (go_at_call 43; (with_reducible refine (spec_l1Split.calls k a0 42 t124 _ A32.out).mono ?_); rintro e w35 ⟨v125, rfl, ho0, hb⟩; have n0_ := Aside0.mk (Kd.R_lower ho0 (below_size (by repeat (first | (with_reducible first | exact HB.out | apply below_alloc | apply pw_below_drewN | apply below_drew1) | exact HB.out)))); have n1_ := Aside0.mk (below_step (by repeat (first | (with_reducible first | exact HB.out | apply below_alloc | apply pw_below_drewN | apply below_drew1) | exact HB.out)) hb); clear HB; have HO126 := n0_; have HB := n1_; clear n0_ n1_; (try clear hb); (try clear hb2); (try clear hk); (try clear hi); (try clear ho0); obtain ⟨Ao36, co36, eo36⟩ := Kd.R_slice HO126.out; subst eo36; have p127 : 0 ≤ (0 : Int) := (by omega); have q127 : 0 < (t124.length : Int) := of_decide_eq_true (by first | (with_reducible assumption) | assumption); obtain ⟨ad127, e127, hx127_0⟩ := Kd.at_string (Kd.R_reads' HO126.out).2.2 0 p127 q127; cases e127; have qi127 : (0 < t124.length) = True := eq_true (by omega); (try rw [show ((0 : Int)).toNat = 0 from rfl] at hx127_0); (try rw [Addr.add_zero'] at hx127_0); replace p127 := eq_true p127; replace q127 := eq_true q127))
      repeat (go_quiet (first | (go_at_call 43; (with_reducible refine (spec_l1Split.calls k a0 42 t124 _ A32.out).mono ?_); rintro e w35 ⟨v125, rfl, ho0, hb⟩; have n0_ := Aside0.mk (Kd.R_lower ho0 (below_size (by repeat (first | (with_reducible first | exact HB.out | apply below_alloc | apply pw_below_drewN | apply below_drew1) | exact HB.out)))); have n1_ := Aside0.mk (below_step (by repeat (first | (with_reducible first | exact HB.out | apply below_alloc | apply pw_below_drewN | apply below_drew1) | exact HB.out)) hb); clear HB; have HO126 := n0_; have HB := n1_; clear n0_ n1_; (try clear hb); (try clear hb2); (try clear hk); (try clear hi); (try clear ho0); obtain ⟨Ao36, co36, eo36⟩ := Kd.R_slice HO126.out; subst eo36; have p127 : 0 ≤ (0 : Int) := (by omega); have q127 : 0 < (t124.length : Int) := of_decide_eq_true (by first | (with_reducible assumption) | assumption); obtain ⟨ad127, e127, hx127_0⟩ := Kd.at_string (Kd.R_reads' HO126.out).2.2 0 p127 q127; cases e127; have qi127 : (0 < t124.length) = True := eq_true (by omega); (try rw [show ((0 : Int)).toNat = 0 from rfl] at hx127_0); (try rw [Addr.add_zero'] at hx127_0); replace p127 := eq_true p127; replace q127 := eq_true q127)); try go_wp2_with (first | (go_at_call 43; (with_reducible refine (spec_l1Split.calls k a0 42 t124 _ A32.out).mono ?_); rintro e w35 ⟨v125, rfl, ho0, hb⟩; have n0_ := Aside0.mk (Kd.R_lower ho0 (below_size (by repeat (first | (with_reducible first | exact HB.out | apply below_alloc | apply pw_below_drewN | apply below_drew1) | exact HB.out)))); have n1_ := Aside0.mk (below_step (by repeat (first | (with_reducible first | exact HB.out | apply below_alloc | apply pw_below_drewN | apply below_drew1) | exact HB.out)) hb); clear HB; have HO126 := n0_; have HB := n1_; clear n0_ n1_; (try clear hb); (try clear hb2); (try clear hk); (try clear hi); (try clear ho0); obtain ⟨Ao36, co36, eo36⟩ := Kd.R_slice HO126.out; subst eo36; have p127 : 0 ≤ (0 : Int) := (by omega); have q127 : 0 < (t124.length : Int) := of_decide_eq_true (by first | (with_reducible assumption) | assumption); obtain ⟨ad127, e127, hx127_0⟩ := Kd.at_string (Kd.R_reads' HO126.out).2.2 0 p127 q127; cases e127; have qi127 : (0 < t124.length) = True := eq_true (by omega); (try rw [show ((0 : Int)).toNat = 0 from rfl] at hx127_0); (try rw [Addr.add_zero'] at hx127_0); replace p127 := eq_true p127; replace q127 := eq_true q127)))
      go_ret
      exact ⟨by first | rfl | (simp <;> rfl) | (simp only [← hji3]; first | rfl | (simp <;> rfl)) | (simp [*] <;> rfl), by repeat (first | (with_reducible first | exact HB.out | apply below_alloc | apply pw_below_drewN | apply below_drew1) | exact HB.out)⟩
     ·rw [if_neg c34] at H
      have c34b0 : decide ((a1.size : Int) < ((rdOf ByteArray.empty t124 0).size : Int)) = false := decide_eq_false c34
      have c34b1 : decide (a1.size < (rdOf ByteArray.empty t124 0).size) = false := decide_eq_false (fun h => c34 (Int.ofNat_lt.mpr h))
      clear c34
      by_cases c37 : 0 ≤ ((rdOf ByteArray.empty t124 0).size : Int)
      ·rw [if_pos c37] at H
       have c37b0 := eq_true c37
       have c37b1 := decide_eq_true c37
       clear c37
       by_cases c38 : ((rdOf ByteArray.empty t124 0).size : Int) ≤ (a1.size : Int)
       ·rw [if_pos c38] at H
        have c38b0 := eq_true c38
        have c38b1 := decide_eq_true c38
        clear c38
        by_cases c39 : (a1.extract 0 (((rdOf ByteArray.empty t124 0).size : Int) : Int).toNat).toList = (rdOf ByteArray.empty t124 0).toList
        ·rw [if_pos c39] at H
         have c39b0 : ((a1.extract 0 (((rdOf ByteArray.empty t124 0).size : Int) : Int).toNat).toList == (rdOf ByteArray.empty t124 0).toList) = true := beq_iff_eq.mpr c39
         (try (have c39b0n := c39b0; simp only [Int.toNat_natCast] at c39b0n))
         have c39b1 : ((a1.extract 0 (((rdOf ByteArray.empty t124 0).size : Int) : Int).toNat).toList != (rdOf ByteArray.empty t124 0).toList) = false := bne_eq_false_iff_eq.mpr c39
         (try (have c39b1n := c39b1; simp only [Int.toNat_natCast] at c39b1n))
         clear c39
         replace H : (spec_l2Has.l0 k a1 false t124 ((rdOf ByteArray.empty t124 0).size : Int) 1) = some r := by first | exact H | (simp only [c39b0] at H; exact H)
         have H' := Aside0.mk H
         clear H
         have p6 : 0 ≤ ((ji3) : Int) := of_decide_eq_true (by first | (with_reducible assumption) | assumption)
         have q6 : (ji3) < (a0.size : Int) := of_decide_eq_true (by first | (with_reducible assumption) | assumption)
         have hx6 := bt_at a0 (ji3)
         replace p6 := eq_true p6
         replace q6 := eq_true q6
         go_enter Try.func26, Try.ntmps26
         go_wp2_with (first | (go_at_call 43; (with_reducible refine (spec_l1Split.calls k a0 42 t124 _ A32.out).mono ?_); rintro e w40 ⟨v125, rfl, ho0, hb⟩; have n0_ := Aside0.mk (Kd.R_lower ho0 (below_size (by repeat (first | (with_reducible first | exact HB.out | apply below_alloc | apply pw_below_drewN | apply below_drew1) | exact HB.out)))); have n1_ := Aside0.mk (below_step (by repeat (first | (with_reducible first | exact HB.out | apply below_alloc | apply pw_below_drewN | apply below_drew1) | exact HB.out)) hb); clear HB; have HO126 := n0_; have HB := n1_; clear n0_ n1_; (try clear hb); (try clear hb2); (try clear hk); (try clear hi); (try clear ho0); obtain ⟨Ao41, co41, eo41⟩ := Kd.R_slice HO126.out; subst eo41; have p127 : 0 ≤ (0 : Int) := (by omega); have q127 : 0 < (t124.length : Int) := of_decide_eq_true (by first | (with_reducible assumption) | assumption); obtain ⟨ad127, e127, hx127_0⟩ := Kd.at_string (Kd.R_reads' HO126.out).2.2 0 p127 q127; cases e127; have qi127 : (0 < t124.length) = True := eq_true (by omega); (try rw [show ((0 : Int)).toNat = 0 from rfl] at hx127_0); (try rw [Addr.add_zero'] at hx127_0); replace p127 := eq_true p127; replace q127 := eq_true q127; have p128 : 0 ≤ (0 : Int) := (by omega); have q128 : 0 < (t124.length : Int) := of_decide_eq_true (by first | (with_reducible assumption) | assumption); obtain ⟨ad128, e128, hx128_0⟩ := Kd.at_string (Kd.R_reads' HO126.out).2.2 0 p128 q128; obtain rfl : ad127 = ad128 := (by injection e128); have qi128 : (0 < t124.length) = True := eq_true (by omega); (try rw [show ((0 : Int)).toNat = 0 from rfl] at hx128_0); (try rw [Addr.add_zero'] at hx128_0); replace p128 := eq_true p128; replace q128 := eq_true q128))
         repeat (go_quiet (first | (go_at_call 43; (with_reducible refine (spec_l1Split.calls k a0 42 t124 _ A32.out).mono ?_); rintro e w40 ⟨v125, rfl, ho0, hb⟩; have n0_ := Aside0.mk (Kd.R_lower ho0 (below_size (by repeat (first | (with_reducible first | exact HB.out | apply below_alloc | apply pw_below_drewN | apply below_drew1) | exact HB.out)))); have n1_ := Aside0.mk (below_step (by repeat (first | (with_reducible first | exact HB.out | apply below_alloc | apply pw_below_drewN | apply below_drew1) | exact HB.out)) hb); clear HB; have HO126 := n0_; have HB := n1_; clear n0_ n1_; (try clear hb); (try clear hb2); (try clear hk); (try clear hi); (try clear ho0); obtain ⟨Ao41, co41, eo41⟩ := Kd.R_slice HO126.out; subst eo41; have p127 : 0 ≤ (0 : Int) := (by omega); have q127 : 0 < (t124.length : Int) := of_decide_eq_true (by first | (with_reducible assumption) | assumption); obtain ⟨ad127, e127, hx127_0⟩ := Kd.at_string (Kd.R_reads' HO126.out).2.2 0 p127 q127; cases e127; have qi127 : (0 < t124.length) = True := eq_true (by omega); (try rw [show ((0 : Int)).toNat = 0 from rfl] at hx127_0); (try rw [Addr.add_zero'] at hx127_0); replace p127 := eq_true p127; replace q127 := eq_true q127; have p128 : 0 ≤ (0 : Int) := (by omega); have q128 : 0 < (t124.length : Int) := of_decide_eq_true (by first | (with_reducible assumption) | assumption); obtain ⟨ad128, e128, hx128_0⟩ := Kd.at_string (Kd.R_reads' HO126.out).2.2 0 p128 q128; obtain rfl : ad127 = ad128 := (by injection e128); have qi128 : (0 < t124.length) = True := eq_true (by omega); (try rw [show ((0 : Int)).toNat = 0 from rfl] at hx128_0); (try rw [Addr.add_zero'] at hx128_0); replace p128 := eq_true p128; replace q128 := eq_true q128)); try go_wp2_with (first | (go_at_call 43; (with_reducible refine (spec_l1Split.calls k a0 42 t124 _ A32.out).mono ?_); rintro e w40 ⟨v125, rfl, ho0, hb⟩; have n0_ := Aside0.mk (Kd.R_lower ho0 (below_size (by repeat (first | (with_reducible first | exact HB.out | apply below_alloc | apply pw_below_drewN | apply below_drew1) | exact HB.out)))); have n1_ := Aside0.mk (below_step (by repeat (first | (with_reducible first | exact HB.out | apply below_alloc | apply pw_below_drewN | apply below_drew1) | exact HB.out)) hb); clear HB; have HO126 := n0_; have HB := n1_; clear n0_ n1_; (try clear hb); (try clear hb2); (try clear hk); (try clear hi); (try clear ho0); obtain ⟨Ao41, co41, eo41⟩ := Kd.R_slice HO126.out; subst eo41; have p127 : 0 ≤ (0 : Int) := (by omega); have q127 : 0 < (t124.length : Int) := of_decide_eq_true (by first | (with_reducible assumption) | assumption); obtain ⟨ad127, e127, hx127_0⟩ := Kd.at_string (Kd.R_reads' HO126.out).2.2 0 p127 q127; cases e127; have qi127 : (0 < t124.length) = True := eq_true (by omega); (try rw [show ((0 : Int)).toNat = 0 from rfl] at hx127_0); (try rw [Addr.add_zero'] at hx127_0); replace p127 := eq_true p127; replace q127 := eq_true q127; have p128 : 0 ≤ (0 : Int) := (by omega); have q128 : 0 < (t124.length : Int) := of_decide_eq_true (by first | (with_reducible assumption) | assumption); obtain ⟨ad128, e128, hx128_0⟩ := Kd.at_string (Kd.R_reads' HO126.out).2.2 0 p128 q128; obtain rfl : ad127 = ad128 := (by injection e128); have qi128 : (0 < t124.length) = True := eq_true (by omega); (try rw [show ((0 : Int)).toNat = 0 from rfl] at hx128_0); (try rw [Addr.add_zero'] at hx128_0); replace p128 := eq_true p128; replace q128 := eq_true q128)))
         go_loopg [7, 8] k (fun kq v7 v8 w' => ∃ (x7_1 : Int) (x8_1 : Int), v7 = .int .i64 x7_1 ∧ v8 = .int .i64 x8_1 ∧ Aside0 (spec_l2Has.l0 kq a1 false t124 x7_1 x8_1 = some r) ∧ Aside0 (kq ≤ k) ∧ Aside0 (Kd.R Kd.string 9 w' w.heap.size (fun _ => True) (.slice (some ad127) t124.length co41) t124) ∧ Aside0 (Below w.heap.size w w'))
         case atStart => exact ⟨(((rdOf ByteArray.empty t124 0).size : Int)), (1), (by first | rfl | (simp; done) | (simp only [i64_w, i32_w]; done) | (simp only [i64_w, i32_w]; rfl) | (simp [*]; done) | (simp [emp_bne, emp_beq]; done)), (by first | rfl | (simp; done) | (simp only [i64_w, i32_w]; done) | (simp only [i64_w, i32_w]; rfl) | (simp [*]; done) | (simp [emp_bne, emp_beq]; done)), H', ⟨Nat.le_refl _⟩, ⟨by (with_reducible repeat (first | apply Kd.R_alloc | apply Kd.R_drewN | apply Kd.R_drew)); exact HO126.out⟩, ⟨by repeat (first | (with_reducible first | exact HB.out | apply below_alloc | apply pw_below_drewN | apply below_drew1) | exact HB.out)⟩⟩
         case round =>
          clear H'
          try clear c1
          try clear p1
          try clear q1
          try clear hx1
          try clear qi1
          try clear c2
          try clear p2
          try clear c3
          try clear c4
          try clear c4b0
          try clear c5
          try clear c5b0
          try clear p6
          try clear q6
          try clear hx6
          try clear c7
          try clear c7b0
          try clear c7b1
          try clear c8
          try clear c8b0
          try clear c9
          try clear c9b0
          try clear c9b1
          try clear c11
          try clear c11b0
          try clear c11b1
          try clear p11
          try clear q11
          try clear hx11
          try clear qi11
          try clear c12
          try clear c12b0
          try clear c12b1
          try clear p12
          try clear q12
          try clear hx12
          try clear qi12
          try clear c15
          try clear c15b0
          try clear c15b1
          try clear c16
          try clear c16b0
          try clear c16b1
          try clear c17
          try clear c17b0
          try clear c17b1
          try clear c20
          try clear c20b0
          try clear c21
          try clear c21b0
          try clear c21b1
          try clear c22
          try clear c22b0
          try clear c23
          try clear c23b0
          try clear c25
          try clear c25b0
          try clear c25b1
          try clear c26
          try clear c26b0
          try clear c26b1
          try clear c27
          try clear c27b0
          try clear c29
          try clear c29b0
          try clear c33
          try clear c33b0
          try clear c33b1
          try clear c34
          try clear c34b0
          try clear c34b1
          try clear c37
          try clear c37b0
          try clear c37b1
          try clear c38
          try clear c38b0
          try clear c38b1
          try clear c39
          try clear c39b0
          try clear c39b1
          try clear hx114_0
          try clear hx115_0
          try clear hx116_0
          try clear hx117_0
          try clear hx118_0
          try clear hx120_0
          try clear hx127_0
          try clear hx128_0
          try clear p1
          try clear p11
          try clear p114
          try clear p115
          try clear p116
          try clear p117
          try clear p118
          try clear p120
          try clear p127
          try clear p128
          try clear p2
          try clear p6
          try clear q1
          try clear q11
          try clear q114
          try clear q115
          try clear q116
          try clear q117
          try clear q118
          try clear q120
          try clear q127
          try clear q128
          try clear q6
          obtain ⟨x7_1, x8_1, rfl, rfl, HA, HK1, HO_6, HB⟩ := hrel
          cases gk with
          | zero => exact absurd HA.out (by simp [spec_l2Has.l0])
          | succ k1 =>
           have H := HA.out
           clear HA
           simp only [spec_l2Has.l0] at H
           by_cases c42 : x8_1 < (t124.length : Int)
           ·rw [if_pos c42] at H
            have c42b0 : decide (x8_1 < (t124.length : Int)) = true := decide_eq_true c42
            clear c42
            have H1 : (if 0 ≤ x8_1 then ((spec_l2Find.f k1 a1 (rdOf ByteArray.empty t124 x8_1) x7_1).bind fun t122 => (if t122 < 0 then (some false) else (spec_l2Has.l0 k1 a1 false t124 (wrap64 (t122 + ((rdOf ByteArray.empty t124 x8_1).size : Int))) (wrap64 (x8_1 + 1))))) else (none)) = some r := by first | (rw [if_neg (show ¬ (false = true) by decide)] at H; exact H) | (rw [if_neg (show ¬ False by decide)] at H; exact H) | exact H
            clear H
            have H := H1
            clear H1
            by_cases c43 : 0 ≤ x8_1
            ·rw [if_pos c43] at H
             have c43b0 : decide (0 ≤ x8_1) = true := decide_eq_true c43
             clear c43
             replace H := Option.bind_eq_some_iff.mp H
             obtain ⟨t122, A440, H⟩ := H
             replace H : (if t122 < 0 then (some false) else (spec_l2Has.l0 k1 a1 false t124 (wrap64 (t122 + ((rdOf ByteArray.empty t124 x8_1).size : Int))) (wrap64 (x8_1 + 1)))) = some r := H
             have A44 := Aside0.mk A440
             clear A440
             by_cases c45 : t122 < 0
             ·rw [if_pos c45] at H
              have c45b0 : decide (t122 < 0) = true := decide_eq_true c45
              clear c45
              obtain rfl := Option.some.inj H
              have p121 : 0 ≤ (x8_1 : Int) := of_decide_eq_true (by first | (with_reducible assumption) | assumption)
              have q121 : x8_1 < (t124.length : Int) := of_decide_eq_true (by first | (with_reducible assumption) | assumption)
              obtain ⟨ad121, e121, hx121_0⟩ := Kd.at_string (Kd.R_reads' HO_6.out).2.2 x8_1 p121 q121
              obtain rfl : ad127 = ad121 := (by injection e121)
              replace p121 := eq_true p121
              replace q121 := eq_true q121
              go_wp2_with (first | (go_at_call 44; (with_reducible refine (spec_l2Find.calls k1 a1 (rdOf ByteArray.empty t124 x8_1) x7_1 t122 _ A44.out).mono ?_); rintro e w' ⟨rfl, ⟨nd, rfl⟩⟩; (try first | exact ⟨rfl, _, World.drewN_drewN _ _ _⟩ | exact ⟨rfl, _, Eq.trans (World.drewN_drewN _ _ _) (congrArg (World.drewN _) (Nat.add_assoc _ _ _))⟩)))
              repeat (go_quiet (first | (go_at_call 44; (with_reducible refine (spec_l2Find.calls k1 a1 (rdOf ByteArray.empty t124 x8_1) x7_1 t122 _ A44.out).mono ?_); rintro e w' ⟨rfl, ⟨nd, rfl⟩⟩; (try first | exact ⟨rfl, _, World.drewN_drewN _ _ _⟩ | exact ⟨rfl, _, Eq.trans (World.drewN_drewN _ _ _) (congrArg (World.drewN _) (Nat.add_assoc _ _ _))⟩))); try go_wp2_with (first | (go_at_call 44; (with_reducible refine (spec_l2Find.calls k1 a1 (rdOf ByteArray.empty t124 x8_1) x7_1 t122 _ A44.out).mono ?_); rintro e w' ⟨rfl, ⟨nd, rfl⟩⟩; (try first | exact ⟨rfl, _, World.drewN_drewN _ _ _⟩ | exact ⟨rfl, _, Eq.trans (World.drewN_drewN _ _ _) (congrArg (World.drewN _) (Nat.add_assoc _ _ _))⟩))))
              go_ret
              exact ⟨by first | rfl | (simp <;> rfl) | (simp only [← hji3]; first | rfl | (simp <;> rfl)) | (simp [*] <;> rfl), by repeat (first | (with_reducible first | exact HB.out | apply below_alloc | apply pw_below_drewN | apply below_drew1) | exact HB.out)⟩
             ·rw [if_neg c45] at H
              have c45b0 : decide (t122 < 0) = false := decide_eq_false c45
              clear c45
              have H' := Aside0.mk H
              clear H
              have p121 : 0 ≤ (x8_1 : Int) := of_decide_eq_true (by first | (with_reducible assumption) | assumption)
              have q121 : x8_1 < (t124.length : Int) := of_decide_eq_true (by first | (with_reducible assumption) | assumption)
              obtain ⟨ad121, e121, hx121_0⟩ := Kd.at_string (Kd.R_reads' HO_6.out).2.2 x8_1 p121 q121
              obtain rfl : ad127 = ad121 := (by injection e121)
              replace p121 := eq_true p121
              replace q121 := eq_true q121
              go_wp2_with (first | (go_at_call 44; (with_reducible refine (spec_l2Find.calls k1 a1 (rdOf ByteArray.empty t124 x8_1) x7_1 t122 _ A44.out).mono ?_); rintro e w' ⟨rfl, ⟨nd, rfl⟩⟩; (try first | exact ⟨rfl, _, World.drewN_drewN _ _ _⟩ | exact ⟨rfl, _, Eq.trans (World.drewN_drewN _ _ _) (congrArg (World.drewN _) (Nat.add_assoc _ _ _))⟩); have p123 : 0 ≤ (x8_1 : Int) := of_decide_eq_true (by first | (with_reducible assumption) | assumption); have q123 : x8_1 < (t124.length : Int) := of_decide_eq_true (by first | (with_reducible assumption) | assumption); obtain ⟨ad123, e123, hx123_0⟩ := Kd.at_string (Kd.R_reads' HO_6.out).2.2 x8_1 p123 q123; obtain rfl : ad127 = ad123 := (by injection e123); replace p123 := eq_true p123; replace q123 := eq_true q123))
              repeat (go_quiet (first | (go_at_call 44; (with_reducible refine (spec_l2Find.calls k1 a1 (rdOf ByteArray.empty t124 x8_1) x7_1 t122 _ A44.out).mono ?_); rintro e w' ⟨rfl, ⟨nd, rfl⟩⟩; (try first | exact ⟨rfl, _, World.drewN_drewN _ _ _⟩ | exact ⟨rfl, _, Eq.trans (World.drewN_drewN _ _ _) (congrArg (World.drewN _) (Nat.add_assoc _ _ _))⟩); have p123 : 0 ≤ (x8_1 : Int) := of_decide_eq_true (by first | (with_reducible assumption) | assumption); have q123 : x8_1 < (t124.length : Int) := of_decide_eq_true (by first | (with_reducible assumption) | assumption); obtain ⟨ad123, e123, hx123_0⟩ := Kd.at_string (Kd.R_reads' HO_6.out).2.2 x8_1 p123 q123; obtain rfl : ad127 = ad123 := (by injection e123); replace p123 := eq_true p123; replace q123 := eq_true q123)); try go_wp2_with (first | (go_at_call 44; (with_reducible refine (spec_l2Find.calls k1 a1 (rdOf ByteArray.empty t124 x8_1) x7_1 t122 _ A44.out).mono ?_); rintro e w' ⟨rfl, ⟨nd, rfl⟩⟩; (try first | exact ⟨rfl, _, World.drewN_drewN _ _ _⟩ | exact ⟨rfl, _, Eq.trans (World.drewN_drewN _ _ _) (congrArg (World.drewN _) (Nat.add_assoc _ _ _))⟩); have p123 : 0 ≤ (x8_1 : Int) := of_decide_eq_true (by first | (with_reducible assumption) | assumption); have q123 : x8_1 < (t124.length : Int) := of_decide_eq_true (by first | (with_reducible assumption) | assumption); obtain ⟨ad123, e123, hx123_0⟩ := Kd.at_string (Kd.R_reads' HO_6.out).2.2 x8_1 p123 q123; obtain rfl : ad127 = ad123 := (by injection e123); replace p123 := eq_true p123; replace q123 := eq_true q123)))
              go_roundg k1
              case measure => have := HK1.out; omega
              case rel => exact ⟨(wrap64 (t122 + ((rdOf ByteArray.empty t124 x8_1).size : Int))), (wrap64 (x8_1 + 1)), (by first | rfl | (simp; done) | (simp only [i64_w, i32_w]; done) | (simp only [i64_w, i32_w]; rfl) | (simp [*]; done) | (simp [emp_bne, emp_beq]; done)), (by first | rfl | (simp; done) | (simp only [i64_w, i32_w]; done) | (simp only [i64_w, i32_w]; rfl) | (simp [*]; done) | (simp [emp_bne, emp_beq]; done)), H', ⟨by have := HK1.out; omega⟩, ⟨by (with_reducible repeat (first | apply Kd.R_alloc | apply Kd.R_drewN | apply Kd.R_drew)); exact HO_6.out⟩, ⟨by repeat (first | (with_reducible first | exact HB.out | apply below_alloc | apply pw_below_drewN | apply below_drew1) | exact HB.out)⟩⟩
            ·rw [if_neg c43] at H
             exact absurd H (by simp)
           ·rw [if_neg c42] at H
            have c42b0 : decide (x8_1 < (t124.length : Int)) = false := decide_eq_false c42
            clear c42
            have H1 : (some true) = some r := by first | (rw [if_neg (show ¬ (false = true) by decide)] at H; exact H) | (rw [if_neg (show ¬ False by decide)] at H; exact H) | exact H
            clear H
            have H := H1
            clear H1
            obtain rfl := Option.some.inj H
            go_wp2
            repeat (go_quiet (fail); try go_wp2)
            go_ret
            exact ⟨by first | rfl | (simp <;> rfl) | (simp only [← hji3]; first | rfl | (simp <;> rfl)) | (simp [*] <;> rfl), by repeat (first | (with_reducible first | exact HB.out | apply below_alloc | apply pw_below_drewN | apply below_drew1) | exact HB.out)⟩
        ·rw [if_neg c39] at H
         have c39b0 : ((a1.extract 0 (((rdOf ByteArray.empty t124 0).size : Int) : Int).toNat).toList == (rdOf ByteArray.empty t124 0).toList) = false := beq_eq_false_iff_ne.mpr c39
         (try (have c39b0n := c39b0; simp only [Int.toNat_natCast] at c39b0n))
         have c39b1 : ((a1.extract 0 (((rdOf ByteArray.empty t124 0).size : Int) : Int).toNat).toList != (rdOf ByteArray.empty t124 0).toList) = true := bne_iff_ne.mpr c39
         (try (have c39b1n := c39b1; simp only [Int.toNat_natCast] at c39b1n))
         replace H : (some false) = some r := by first | exact H | (simp only [c39b0] at H; exact H)
         obtain rfl := Option.some.inj H
         have p6 : 0 ≤ ((ji3) : Int) := of_decide_eq_true (by first | (with_reducible assumption) | assumption)
         have q6 : (ji3) < (a0.size : Int) := of_decide_eq_true (by first | (with_reducible assumption) | assumption)
         have hx6 := bt_at a0 (ji3)
         replace p6 := eq_true p6
         replace q6 := eq_true q6
         go_enter Try.func26, Try.ntmps26
         go_wp2_with (first | (go_at_call 43; (with_reducible refine (spec_l1Split.calls k a0 42 t124 _ A32.out).mono ?_); rintro e w46 ⟨v125, rfl, ho0, hb⟩; have n0_ := Aside0.mk (Kd.R_lower ho0 (below_size (by repeat (first | (with_reducible first | exact HB.out | apply below_alloc | apply pw_below_drewN | apply below_drew1) | exact HB.out)))); have n1_ := Aside0.mk (below_step (by repeat (first | (with_reducible first | exact HB.out | apply below_alloc | apply pw_below_drewN | apply below_drew1) | exact HB.out)) hb); clear HB; have HO126 := n0_; have HB := n1_; clear n0_ n1_; (try clear hb); (try clear hb2); (try clear hk); (try clear hi); (try clear ho0); obtain ⟨Ao47, co47, eo47⟩ := Kd.R_slice HO126.out; subst eo47; have p127 : 0 ≤ (0 : Int) := (by omega); have q127 : 0 < (t124.length : Int) := of_decide_eq_true (by first | (with_reducible assumption) | assumption); obtain ⟨ad127, e127, hx127_0⟩ := Kd.at_string (Kd.R_reads' HO126.out).2.2 0 p127 q127; cases e127; have qi127 : (0 < t124.length) = True := eq_true (by omega); (try rw [show ((0 : Int)).toNat = 0 from rfl] at hx127_0); (try rw [Addr.add_zero'] at hx127_0); replace p127 := eq_true p127; replace q127 := eq_true q127; have p128 : 0 ≤ (0 : Int) := (by omega); have q128 : 0 < (t124.length : Int) := of_decide_eq_true (by first | (with_reducible assumption) | assumption); obtain ⟨ad128, e128, hx128_0⟩ := Kd.at_string (Kd.R_reads' HO126.out).2.2 0 p128 q128; obtain rfl : ad127 = ad128 := (by injection e128); have qi128 : (0 < t124.length) = True := eq_true (by omega); (try rw [show ((0 : Int)).toNat = 0 from rfl] at hx128_0); (try rw [Addr.add_zero'] at hx128_0); replace p128 := eq_true p128; replace q128 := eq_true q128))
         repeat (go_quiet (first | (go_at_call 43; (with_reducible refine (spec_l1Split.calls k a0 42 t124 _ A32.out).mono ?_); rintro e w46 ⟨v125, rfl, ho0, hb⟩; have n0_ := Aside0.mk (Kd.R_lower ho0 (below_size (by repeat (first | (with_reducible first | exact HB.out | apply below_alloc | apply pw_below_drewN | apply below_drew1) | exact HB.out)))); have n1_ := Aside0.mk (below_step (by repeat (first | (with_reducible first | exact HB.out | apply below_alloc | apply pw_below_drewN | apply below_drew1) | exact HB.out)) hb); clear HB; have HO126 := n0_; have HB := n1_; clear n0_ n1_; (try clear hb); (try clear hb2); (try clear hk); (try clear hi); (try clear ho0); obtain ⟨Ao47, co47, eo47⟩ := Kd.R_slice HO126.out; subst eo47; have p127 : 0 ≤ (0 : Int) := (by omega); have q127 : 0 < (t124.length : Int) := of_decide_eq_true (by first | (with_reducible assumption) | assumption); obtain ⟨ad127, e127, hx127_0⟩ := Kd.at_string (Kd.R_reads' HO126.out).2.2 0 p127 q127; cases e127; have qi127 : (0 < t124.length) = True := eq_true (by omega); (try rw [show ((0 : Int)).toNat = 0 from rfl] at hx127_0); (try rw [Addr.add_zero'] at hx127_0); replace p127 := eq_true p127; replace q127 := eq_true q127; have p128 : 0 ≤ (0 : Int) := (by omega); have q128 : 0 < (t124.length : Int) := of_decide_eq_true (by first | (with_reducible assumption) | assumption); obtain ⟨ad128, e128, hx128_0⟩ := Kd.at_string (Kd.R_reads' HO126.out).2.2 0 p128 q128; obtain rfl : ad127 = ad128 := (by injection e128); have qi128 : (0 < t124.length) = True := eq_true (by omega); (try rw [show ((0 : Int)).toNat = 0 from rfl] at hx128_0); (try rw [Addr.add_zero'] at hx128_0); replace p128 := eq_true p128; replace q128 := eq_true q128)); try go_wp2_with (first | (go_at_call 43; (with_reducible refine (spec_l1Split.calls k a0 42 t124 _ A32.out).mono ?_); rintro e w46 ⟨v125, rfl, ho0, hb⟩; have n0_ := Aside0.mk (Kd.R_lower ho0 (below_size (by repeat (first | (with_reducible first | exact HB.out | apply below_alloc | apply pw_below_drewN | apply below_drew1) | exact HB.out)))); have n1_ := Aside0.mk (below_step (by repeat (first | (with_reducible first | exact HB.out | apply below_alloc | apply pw_below_drewN | apply below_drew1) | exact HB.out)) hb); clear HB; have HO126 := n0_; have HB := n1_; clear n0_ n1_; (try clear hb); (try clear hb2); (try clear hk); (try clear hi); (try clear ho0); obtain ⟨Ao47, co47, eo47⟩ := Kd.R_slice HO126.out; subst eo47; have p127 : 0 ≤ (0 : Int) := (by omega); have q127 : 0 < (t124.length : Int) := of_decide_eq_true (by first | (with_reducible assumption) | assumption); obtain ⟨ad127, e127, hx127_0⟩ := Kd.at_string (Kd.R_reads' HO126.out).2.2 0 p127 q127; cases e127; have qi127 : (0 < t124.length) = True := eq_true (by omega); (try rw [show ((0 : Int)).toNat = 0 from rfl] at hx127_0); (try rw [Addr.add_zero'] at hx127_0); replace p127 := eq_true p127; replace q127 := eq_true q127; have p128 : 0 ≤ (0 : Int) := (by omega); have q128 : 0 < (t124.length : Int) := of_decide_eq_true (by first | (with_reducible assumption) | assumption); obtain ⟨ad128, e128, hx128_0⟩ := Kd.at_string (Kd.R_reads' HO126.out).2.2 0 p128 q128; obtain rfl : ad127 = ad128 := (by injection e128); have qi128 : (0 < t124.length) = True := eq_true (by omega); (try rw [show ((0 : Int)).toNat = 0 from rfl] at hx128_0); (try rw [Addr.add_zero'] at hx128_0); replace p128 := eq_true p128; replace q128 := eq_true q128)))
         go_ret
         exact ⟨by first | rfl | (simp <;> rfl) | (simp only [← hji3]; first | rfl | (simp <;> rfl)) | (simp [*] <;> rfl), by repeat (first | (with_reducible first | exact HB.out | apply below_alloc | apply pw_below_drewN | apply below_drew1) | exact HB.out)⟩
       ·rw [if_neg c38] at H
        exact absurd H (by simp)
      ·rw [if_neg c37] at H
       exact absurd H (by simp)
    ·rw [if_neg c33] at H
     exact absurd H (by simp)
  ·rw [if_neg c5] at H
   exact absurd H (by simp)
 ·rw [if_neg c4] at H
  exact absurd H (by simp)

/-! ### spec_RuleHas: function 13 -/
def spec_RuleHas.f (k : Nat) (a0 : ByteArray) (a1 : ByteArray) : Option (Bool) := (spec_RuleOk.f k a0).bind fun t129 => (if t129 = true then (if (a1.size : Int) ≤ 60 then ((spec_l2Has.f k a0 a1).bind fun t130 => (some t130)) else (some false)) else (some false))
theorem spec_RuleHas.mono : ∀ a0 a1 k, LeO (spec_RuleHas.f k a0 a1) (spec_RuleHas.f (k + 1) a0 a1) := by
 intro a0 a1 k
 unfold spec_RuleHas.f
 repeat' first
   | (with_reducible exact spec_RuleOk.mono _ _)
   | (with_reducible exact spec_l2Has.mono _ _ _)
   | (with_reducible exact LeO.refl _)
   | (with_reducible exact LeO.none _)
   | (with_reducible refine LeO.ite ?_ ?_)
   | (with_reducible refine LeO.bind ?_ (fun _ => ?_))
   | exact spec_RuleOk.mono _ _
   | exact spec_l2Has.mono _ _ _
   | exact LeO.none _
   | refine LeO.ite ?_ ?_
   | refine LeO.bind ?_ (fun _ => ?_)
theorem spec_RuleHas.calls (k : Nat) (a0 : ByteArray) (a1 : ByteArray) (r : Bool) (w : World) (h : spec_RuleHas.f k a0 a1 = some r) :
  Calls Try.prog 13 #[.string a0, .string a1] w fun e w' => e = .returned (.bool r) ∧ Below w.heap.size w w' := by
 have HB := Aside0.mk (Below.refl w.heap.size w)
 have H : ((spec_RuleOk.f k a0).bind fun t129 => (if t129 = true then (if (a1.size : Int) ≤ 60 then ((spec_l2Has.f k a0 a1).bind fun t130 => (some t130)) else (some false)) else (some false))) = some r := h
 clear h
 replace H := Option.bind_eq_some_iff.mp H
 obtain ⟨t129, A30, H⟩ := H
 replace H : (if t129 = true then (if (a1.size : Int) ≤ 60 then ((spec_l2Has.f k a0 a1).bind fun t130 => (some t130)) else (some false)) else (some false)) = some r := H
 have A3 := Aside0.mk A30
 clear A30
 by_cases c4 : t129 = true
 ·subst c4
  have H1 : (if (a1.size : Int) ≤ 60 then ((spec_l2Has.f k a0 a1).bind fun t130 => (some t130)) else (some false)) = some r := by rw [if_pos rfl] at H; exact H
  clear H
  have H := H1
  clear H1
  by_cases c5 : (a1.size : Int) ≤ 60
  ·rw [if_pos c5] at H
   have c5b0 : decide ((a1.size : Int) ≤ 60) = true := decide_eq_true c5
   have c5b1 : decide (a1.size ≤ 60) = true := decide_eq_true (by omega)
   clear c5
   replace H := Option.bind_eq_some_iff.mp H
   obtain ⟨t130, A60, H⟩ := H
   replace H : (some t130) = some r := H
   have A6 := Aside0.mk A60
   clear A60
   obtain rfl := Option.some.inj H
   go_enter Try.func13, Try.ntmps13
   go_wp2_with (first | ((with_reducible refine gate_callee (f := 22) rfl ?_); refine goesL_ (some 6) rfl rfl Try.func22 (by kernel_rfl) rfl #[.string a0] rfl (by (try simp only [List.map_toArray, List.map_cons, List.map_nil]); first | done | rfl | (simp only [List.length_drop, List.length_take]; rfl)) ?_; (with_reducible refine (spec_RuleOk.calls k a0 true _ A3.out).mono ?_); rintro e w' ⟨rfl, ⟨nd, rfl⟩⟩; refine ⟨_, rfl, ?_⟩) | (go_at_call 26; (with_reducible refine (spec_l2Has.calls k a0 a1 t130 _ A6.out).mono ?_); rintro e w7 ⟨rfl, hb⟩; have n0_ := Aside0.mk (below_step (by repeat (first | (with_reducible first | exact HB.out | apply below_alloc | apply pw_below_drewN | apply below_drew1) | exact HB.out)) hb); clear HB; have HB := n0_; clear n0_; (try clear hb); (try clear hb2); (try clear hk); (try clear hi)))
   go_ret
   exact ⟨by first | rfl | (simp <;> rfl) | (simp [*] <;> rfl), by repeat (first | (with_reducible first | exact HB.out | apply below_alloc | apply pw_below_drewN | apply below_drew1) | exact HB.out)⟩
  ·rw [if_neg c5] at H
   have c5b0 : decide ((a1.size : Int) ≤ 60) = false := decide_eq_false c5
   have c5b1 : decide (a1.size ≤ 60) = false := decide_eq_false (by omega)
   clear c5
   obtain rfl := Option.some.inj H
   go_enter Try.func13, Try.ntmps13
   go_wp2_with (first | ((with_reducible refine gate_callee (f := 22) rfl ?_); refine goesL_ (some 6) rfl rfl Try.func22 (by kernel_rfl) rfl #[.string a0] rfl (by (try simp only [List.map_toArray, List.map_cons, List.map_nil]); first | done | rfl | (simp only [List.length_drop, List.length_take]; rfl)) ?_; (with_reducible refine (spec_RuleOk.calls k a0 true _ A3.out).mono ?_); rintro e w' ⟨rfl, ⟨nd, rfl⟩⟩; refine ⟨_, rfl, ?_⟩))
   go_ret
   exact ⟨by first | rfl | (simp <;> rfl) | (simp [*] <;> rfl), by repeat (first | (with_reducible first | exact HB.out | apply below_alloc | apply pw_below_drewN | apply below_drew1) | exact HB.out)⟩
 ·replace c4 := Bool.eq_false_iff.mpr c4
  subst c4
  have H1 : (some false) = some r := by rw [if_neg (show ¬ (false = true) by decide)] at H; exact H
  clear H
  have H := H1
  clear H1
  obtain rfl := Option.some.inj H
  go_enter Try.func13, Try.ntmps13
  go_wp2_with (first | ((with_reducible refine gate_callee (f := 22) rfl ?_); refine goesL_ (some 6) rfl rfl Try.func22 (by kernel_rfl) rfl #[.string a0] rfl (by (try simp only [List.map_toArray, List.map_cons, List.map_nil]); first | done | rfl | (simp only [List.length_drop, List.length_take]; rfl)) ?_; (with_reducible refine (spec_RuleOk.calls k a0 false _ A3.out).mono ?_); rintro e w' ⟨rfl, ⟨nd, rfl⟩⟩; refine ⟨_, rfl, ?_⟩))
  go_ret
  exact ⟨by first | rfl | (simp <;> rfl) | (simp [*] <;> rfl), by repeat (first | (with_reducible first | exact HB.out | apply below_alloc | apply pw_below_drewN | apply below_drew1) | exact HB.out)⟩

/-! ### stringslite_HasSuffix: function 55 -/
def stringslite_HasSuffix.f (a0 : ByteArray) (a1 : ByteArray) : Option (Bool) := if (a0.size : Int) ≥ (a1.size : Int) then (if 0 ≤ (wrap64 ((a0.size : Int) - (a1.size : Int))) then (if (wrap64 ((a0.size : Int) - (a1.size : Int))) ≤ (a0.size : Int) then (some ((a0.extract ((wrap64 ((a0.size : Int) - (a1.size : Int))) : Int).toNat a0.size).toList == a1.toList)) else (none)) else (none)) else (some false)
theorem stringslite_HasSuffix.calls (a0 : ByteArray) (a1 : ByteArray) (r : Bool) (w : World) (h : stringslite_HasSuffix.f a0 a1 = some r) :
  Calls Try.prog 55 #[.string a0, .string a1] w fun e w' => e = .returned (.bool r) ∧ Drawn0 w w' := by
 have H : (if (a0.size : Int) ≥ (a1.size : Int) then (if 0 ≤ (wrap64 ((a0.size : Int) - (a1.size : Int))) then (if (wrap64 ((a0.size : Int) - (a1.size : Int))) ≤ (a0.size : Int) then (some ((a0.extract ((wrap64 ((a0.size : Int) - (a1.size : Int))) : Int).toNat a0.size).toList == a1.toList)) else (none)) else (none)) else (some false)) = some r := h
 clear h
 by_cases c3 : (a0.size : Int) ≥ (a1.size : Int)
 ·rw [if_pos c3] at H
  have c3b0 : decide ((a1.size : Int) ≤ (a0.size : Int)) = true := decide_eq_true c3
  have c3b1 : decide (a1.size ≤ a0.size) = true := decide_eq_true (Int.ofNat_le.mp c3)
  clear c3
  obtain ⟨ji4, hji4⟩ : ∃ j_ : Int, (wrap64 ((a0.size : Int) - (a1.size : Int))) = j_ := ⟨_, rfl⟩
  replace H : (if 0 ≤ (ji4) then (if (ji4) ≤ (a0.size : Int) then (some ((a0.extract ((ji4) : Int).toNat a0.size).toList == a1.toList)) else (none)) else (none)) = some r := by first | (rw [hji4] at H; exact H) | (simp only [hji4] at H ⊢; exact H)
  have hji4w : (IntKind.i64.wrap ((a0.size : Int) - (a1.size : Int))) = ji4 := (i64_w _).trans hji4
  by_cases c5 : 0 ≤ (ji4)
  ·rw [if_pos c5] at H
   have c5b0 := eq_true c5
   have c5b1 := decide_eq_true c5
   clear c5
   by_cases c6 : (ji4) ≤ (a0.size : Int)
   ·rw [if_pos c6] at H
    have c6b0 := eq_true c6
    have c6b1 := decide_eq_true c6
    clear c6
    obtain rfl := Option.some.inj H
    go_enter Try.func55, Try.ntmps55
    go_wp2
    go_ret
    exact ⟨by first | rfl | (simp only [i64_w, i32_w]; done) | (simp only [i64_w, i32_w]; rfl) | (simp; done) | (simp only [← hji4] <;> (first | rfl | simp)) | (simp [*]; done), by repeat (first | exact Drawn0.refl _ | apply Drawn0.step)⟩
   ·rw [if_neg c6] at H
    exact absurd H (by simp)
  ·rw [if_neg c5] at H
   exact absurd H (by simp)
 ·rw [if_neg c3] at H
  have c3b0 : decide ((a1.size : Int) ≤ (a0.size : Int)) = false := decide_eq_false c3
  have c3b1 : decide (a1.size ≤ a0.size) = false := decide_eq_false (fun h => c3 (Int.ofNat_le.mpr h))
  clear c3
  obtain rfl := Option.some.inj H
  go_enter Try.func55, Try.ntmps55
  go_wp2
  go_ret
  exact ⟨by first | rfl | (simp; done) | (simp only [i64_w, i32_w]; done) | (simp only [i64_w, i32_w]; rfl) | (simp [*]; done) | (simp [emp_bne, emp_beq]; done), by repeat (first | exact Drawn0.refl _ | apply Drawn0.step)⟩

/-! ### stringslite_TrimSuffix: function 53 -/
def stringslite_TrimSuffix.f (a0 : ByteArray) (a1 : ByteArray) : Option (ByteArray) := (stringslite_HasSuffix.f a0 a1).bind fun t131 => (if t131 = true then (if 0 ≤ (wrap64 ((a0.size : Int) - (a1.size : Int))) then (if (wrap64 ((a0.size : Int) - (a1.size : Int))) ≤ (a0.size : Int) then (some (a0.extract 0 ((wrap64 ((a0.size : Int) - (a1.size : Int))) : Int).toNat)) else (none)) else (none)) else (some a0))
theorem stringslite_TrimSuffix.calls (a0 : ByteArray) (a1 : ByteArray) (r : ByteArray) (w : World) (h : stringslite_TrimSuffix.f a0 a1 = some r) :
  Calls Try.prog 53 #[.string a0, .string a1] w fun e w' => e = .returned (.string r) ∧ Drawn0 w w' := by
 have H : ((stringslite_HasSuffix.f a0 a1).bind fun t131 => (if t131 = true then (if 0 ≤ (wrap64 ((a0.size : Int) - (a1.size : Int))) then (if (wrap64 ((a0.size : Int) - (a1.size : Int))) ≤ (a0.size : Int) then (some (a0.extract 0 ((wrap64 ((a0.size : Int) - (a1.size : Int))) : Int).toNat)) else (none)) else (none)) else (some a0))) = some r := h
 clear h
 replace H := Option.bind_eq_some_iff.mp H
 obtain ⟨t131, A30, H⟩ := H
 replace H : (if t131 = true then (if 0 ≤ (wrap64 ((a0.size : Int) - (a1.size : Int))) then (if (wrap64 ((a0.size : Int) - (a1.size : Int))) ≤ (a0.size : Int) then (some (a0.extract 0 ((wrap64 ((a0.size : Int) - (a1.size : Int))) : Int).toNat)) else (none)) else (none)) else (some a0)) = some r := H
 have A3 := Aside0.mk A30
 clear A30
 by_cases c4 : t131 = true
 ·subst c4
  have H1 : (if 0 ≤ (wrap64 ((a0.size : Int) - (a1.size : Int))) then (if (wrap64 ((a0.size : Int) - (a1.size : Int))) ≤ (a0.size : Int) then (some (a0.extract 0 ((wrap64 ((a0.size : Int) - (a1.size : Int))) : Int).toNat)) else (none)) else (none)) = some r := by rw [if_pos rfl] at H; exact H
  clear H
  have H := H1
  clear H1
  obtain ⟨ji5, hji5⟩ : ∃ j_ : Int, (wrap64 ((a0.size : Int) - (a1.size : Int))) = j_ := ⟨_, rfl⟩
  replace H : (if 0 ≤ (ji5) then (if (ji5) ≤ (a0.size : Int) then (some (a0.extract 0 ((ji5) : Int).toNat)) else (none)) else (none)) = some r := by first | (rw [hji5] at H; exact H) | (simp only [hji5] at H ⊢; exact H)
  (try rw [hji5] at A3)
  have hji5w : (IntKind.i64.wrap ((a0.size : Int) - (a1.size : Int))) = ji5 := (i64_w _).trans hji5
  by_cases c6 : 0 ≤ (ji5)
  ·rw [if_pos c6] at H
   have c6b0 := eq_true c6
   have c6b1 := decide_eq_true c6
   clear c6
   by_cases c7 : (ji5) ≤ (a0.size : Int)
   ·rw [if_pos c7] at H
    have c7b0 := eq_true c7
    have c7b1 := decide_eq_true c7
    clear c7
    obtain rfl := Option.some.inj H
    go_enter Try.func53, Try.ntmps53
    go_wp2_with (first | ((with_reducible refine gate_callee (f := 55) rfl ?_); refine goesL_ (some 7) rfl rfl Try.func55 (by kernel_rfl) rfl #[.string a0, .string a1] rfl (by (try simp only [List.map_toArray, List.map_cons, List.map_nil]); first | done | rfl | (simp only [List.length_drop, List.length_take]; rfl)) ?_; (with_reducible refine (stringslite_HasSuffix.calls a0 a1 true _ A3.out).mono ?_); rintro e w' ⟨rfl, ⟨nd, rfl⟩⟩; refine ⟨_, rfl, ?_⟩))
    go_ret
    exact ⟨by first | rfl | (simp only [i64_w, i32_w]; done) | (simp only [i64_w, i32_w]; rfl) | (simp; done) | (simp only [← hji5] <;> (first | rfl | simp)) | (simp [*]; done), by repeat (first | exact Drawn0.refl _ | apply Drawn0.step)⟩
   ·rw [if_neg c7] at H
    exact absurd H (by simp)
  ·rw [if_neg c6] at H
   exact absurd H (by simp)
 ·replace c4 := Bool.eq_false_iff.mpr c4
  subst c4
  have H1 : (some a0) = some r := by rw [if_neg (show ¬ (false = true) by decide)] at H; exact H
  clear H
  have H := H1
  clear H1
  obtain rfl := Option.some.inj H
  go_enter Try.func53, Try.ntmps53
  go_wp2_with (first | ((with_reducible refine gate_callee (f := 55) rfl ?_); refine goesL_ (some 7) rfl rfl Try.func55 (by kernel_rfl) rfl #[.string a0, .string a1] rfl (by (try simp only [List.map_toArray, List.map_cons, List.map_nil]); first | done | rfl | (simp only [List.length_drop, List.length_take]; rfl)) ?_; (with_reducible refine (stringslite_HasSuffix.calls a0 a1 false _ A3.out).mono ?_); rintro e w' ⟨rfl, ⟨nd, rfl⟩⟩; refine ⟨_, rfl, ?_⟩))
  go_ret
  exact ⟨by first | rfl | (simp; done) | (simp only [i64_w, i32_w]; done) | (simp only [i64_w, i32_w]; rfl) | (simp [*]; done) | (simp [emp_bne, emp_beq]; done), by repeat (first | exact Drawn0.refl _ | apply Drawn0.step)⟩

end Go.Proofs.Ytmkncihmgbjgnaa.P
