-- Written by a program of this session (patch_print.py over the kit's print; given texts in wip/given).
import Derived.Test.YtagahkoafepehaaPx0
namespace Go.Proofs.Ytagahkoafepehaa.P
open Go.RowKit Go.Proofs.YtagahkoafepehaaW.PrintWords Go.Proofs.YtagahkoafepehaaW.PrintLast Go.Proofs.YtagahkoafepehaaW.PrintMore
attribute [local go_sem] max2_int min2_int max_two min_two max_three min_three max_four min_four   -- for this text's walks alone
set_option linter.unusedVariables false
set_option linter.unusedSimpArgs false
set_option maxHeartbeats 8000000
set_option maxRecDepth 100000

/-! ### laws_szStringS: function 4 -/
def laws_szStringS.l0 : Nat → List ByteArray → Int → Int → Option (Int)
 | 0, _, _, _ => none
 | k + 1, x0, x1, x5 => if x5 < (x0.length : Int) then (if 0 ≤ x5 then (if (wrap64 (x1 - ((rdOf ByteArray.empty x0 x5).size : Int))) < 0 then (some (-1)) else (laws_szStringS.l0 k x0 (wrap64 (x1 - ((rdOf ByteArray.empty x0 x5).size : Int))) (wrap64 (x5 + 1)))) else (none)) else (some x1)
def laws_szStringS.f (k : Nat) (l0 : List ByteArray) (a1 : Int) : Option (Int) := if (wrap64 (a1 - (l0.length : Int))) < 0 then (some (-1)) else (laws_szStringS.l0 k l0 (wrap64 (a1 - (l0.length : Int))) 0)
theorem laws_szStringS.mono_l : ∀ k, (∀ y0 y1 y2, LeO (laws_szStringS.l0 k y0 y1 y2) (laws_szStringS.l0 (k + 1) y0 y1 y2))
 | 0 => fun _ _ _ r h => by simp [laws_szStringS.l0] at h
 | k + 1 => by
  have ih0 := laws_szStringS.mono_l k
  ·intro y0 y1 y2
   unfold laws_szStringS.l0
   repeat' first
   | (with_reducible exact ih0 _ _ _)
   | (with_reducible exact LeO.refl _)
   | (with_reducible exact LeO.none _)
   | (with_reducible refine LeO.ite ?_ ?_)
   | (with_reducible refine LeO.bind ?_ (fun _ => ?_))
   | exact ih0 _ _ _
   | exact LeO.none _
   | refine LeO.ite ?_ ?_
   | refine LeO.bind ?_ (fun _ => ?_)
theorem laws_szStringS.mono : ∀ a0 a1 k, LeO (laws_szStringS.f k a0 a1) (laws_szStringS.f (k + 1) a0 a1) := by
 intro a0 a1 k
 have ih0 := laws_szStringS.mono_l k
 unfold laws_szStringS.f
 repeat' first
   | (with_reducible exact ih0 _ _ _)
   | (with_reducible exact LeO.refl _)
   | (with_reducible exact LeO.none _)
   | (with_reducible refine LeO.ite ?_ ?_)
   | (with_reducible refine LeO.bind ?_ (fun _ => ?_))
   | exact ih0 _ _ _
   | exact LeO.none _
   | refine LeO.ite ?_ ?_
   | refine LeO.bind ?_ (fun _ => ?_)
theorem laws_szStringS.calls (k : Nat) (A0 : Option Addr) (c0 : Nat) (l0 : List ByteArray) (a1 : Int) (r : Int) (w : World) (hr0 : Kd.C Kd.string w A0 l0.length l0) (hc0 : l0.length ≤ c0) (h : laws_szStringS.f k l0 a1 = some r) :
  Calls Try.prog 4 #[.slice A0 l0.length c0, .int .i64 a1] w fun e w' => e = .returned (.int .i64 r) ∧ Drawn0 w w' := by
 have HR0 := Aside0.mk hr0
 have HC0 := Aside0.mk hc0
 clear hr0 hc0
 have H : (if (wrap64 (a1 - (l0.length : Int))) < 0 then (some (-1)) else (laws_szStringS.l0 k l0 (wrap64 (a1 - (l0.length : Int))) 0)) = some r := h
 clear h
 by_cases c3 : (wrap64 (a1 - (l0.length : Int))) < 0
 ·rw [if_pos c3] at H
  have c3b0 : decide ((wrap64 (a1 - (l0.length : Int))) < 0) = true := decide_eq_true c3
  clear c3
  obtain rfl := Option.some.inj H
  go_enter Try.func4, Try.ntmps4
  go_wp2
  go_ret
  exact ⟨by first | rfl | (simp; done) | (simp only [i64_w, i32_w]; done) | (simp only [i64_w, i32_w]; rfl) | (simp [*]; done) | (simp [emp_bne, emp_beq]; done), by repeat (first | exact Drawn0.refl _ | apply Drawn0.step)⟩
 ·rw [if_neg c3] at H
  have c3b0 : decide ((wrap64 (a1 - (l0.length : Int))) < 0) = false := decide_eq_false c3
  clear c3
  have H' := Aside0.mk H
  clear H
  go_enter Try.func4, Try.ntmps4
  go_wp2
  go_loopg [1, 5] k (fun kq v1 v5 w' => ∃ (x1_1 : Int) (x5_1 : Int), v1 = .int .i64 x1_1 ∧ v5 = .int .i64 x5_1 ∧ Aside0 (laws_szStringS.l0 kq l0 x1_1 x5_1 = some r) ∧ Aside0 (kq ≤ k) ∧ Drawn0 w w')
  case atStart => exact ⟨(wrap64 (a1 - (l0.length : Int))), (0), (by first | rfl | (simp; done) | (simp only [i64_w, i32_w]; done) | (simp only [i64_w, i32_w]; rfl) | (simp [*]; done) | (simp [emp_bne, emp_beq]; done)), (by first | rfl | (simp; done) | (simp only [i64_w, i32_w]; done) | (simp only [i64_w, i32_w]; rfl) | (simp [*]; done) | (simp [emp_bne, emp_beq]; done)), H', ⟨Nat.le_refl _⟩, by repeat (first | exact Drawn0.refl _ | apply Drawn0.step)⟩
  case round =>
   clear H'
   try clear p2
   try clear c3
   try clear c3b0
   obtain ⟨x1_1, x5_1, rfl, rfl, HA, HK1, ⟨m1, rfl⟩⟩ := hrel
   cases gk with
   | zero => exact absurd HA.out (by simp [laws_szStringS.l0])
   | succ k1 =>
    have H := HA.out
    clear HA
    simp only [laws_szStringS.l0] at H
    by_cases c4 : x5_1 < (l0.length : Int)
    ·rw [if_pos c4] at H
     have c4b0 : decide (x5_1 < (l0.length : Int)) = true := decide_eq_true c4
     clear c4
     by_cases c5 : 0 ≤ x5_1
     ·rw [if_pos c5] at H
      have c5b0 : decide (0 ≤ x5_1) = true := decide_eq_true c5
      clear c5
      by_cases c6 : (wrap64 (x1_1 - ((rdOf ByteArray.empty l0 x5_1).size : Int))) < 0
      ·rw [if_pos c6] at H
       have c6b0 : decide ((wrap64 (x1_1 - ((rdOf ByteArray.empty l0 x5_1).size : Int))) < 0) = true := decide_eq_true c6
       clear c6
       obtain rfl := Option.some.inj H
       have p101 : 0 ≤ (x5_1 : Int) := of_decide_eq_true (by first | (with_reducible assumption) | assumption)
       have q101 : x5_1 < (l0.length : Int) := of_decide_eq_true (by first | (with_reducible assumption) | assumption)
       obtain ⟨ad101, e101, hx101_0⟩ := Kd.at_string HR0.out x5_1 p101 q101
       cases e101
       replace p101 := eq_true p101
       replace q101 := eq_true q101
       go_wp2
       go_ret
       exact ⟨by first | rfl | (simp; done) | (simp only [i64_w, i32_w]; done) | (simp only [i64_w, i32_w]; rfl) | (simp [*]; done) | (simp [emp_bne, emp_beq]; done), by repeat (first | exact Drawn0.refl _ | apply Drawn0.step)⟩
      ·rw [if_neg c6] at H
       have c6b0 : decide ((wrap64 (x1_1 - ((rdOf ByteArray.empty l0 x5_1).size : Int))) < 0) = false := decide_eq_false c6
       clear c6
       have H' := Aside0.mk H
       clear H
       have p101 : 0 ≤ (x5_1 : Int) := of_decide_eq_true (by first | (with_reducible assumption) | assumption)
       have q101 : x5_1 < (l0.length : Int) := of_decide_eq_true (by first | (with_reducible assumption) | assumption)
       obtain ⟨ad101, e101, hx101_0⟩ := Kd.at_string HR0.out x5_1 p101 q101
       cases e101
       replace p101 := eq_true p101
       replace q101 := eq_true q101
       go_wp2
       go_roundg k1
       case measure => have := HK1.out; omega
       case rel => exact ⟨(wrap64 (x1_1 - ((rdOf ByteArray.empty l0 x5_1).size : Int))), (wrap64 (x5_1 + 1)), (by first | rfl | (simp; done) | (simp only [i64_w, i32_w]; done) | (simp only [i64_w, i32_w]; rfl) | (simp [*]; done) | (simp [emp_bne, emp_beq]; done)), (by first | rfl | (simp; done) | (simp only [i64_w, i32_w]; done) | (simp only [i64_w, i32_w]; rfl) | (simp [*]; done) | (simp [emp_bne, emp_beq]; done)), H', ⟨by have := HK1.out; omega⟩, by repeat (first | exact Drawn0.refl _ | apply Drawn0.step)⟩
     ·rw [if_neg c5] at H
      exact absurd H (by simp)
    ·rw [if_neg c4] at H
     have c4b0 : decide (x5_1 < (l0.length : Int)) = false := decide_eq_false c4
     clear c4
     obtain rfl := Option.some.inj H
     go_wp2
     go_ret
     exact ⟨by first | rfl | (simp; done) | (simp only [i64_w, i32_w]; done) | (simp only [i64_w, i32_w]; rfl) | (simp [*]; done) | (simp [emp_bne, emp_beq]; done), by repeat (first | exact Drawn0.refl _ | apply Drawn0.step)⟩

/-! ### spec_PathClean: function 5 -/
mutual
def spec_PathClean.l0 : Nat → List ByteArray → List ByteArray → Int → Option (List ByteArray)
 | 0, _, _, _ => none
 | k + 1, x0, x3, x4 => if x4 < (x0.length : Int) then (if 0 ≤ x4 then (if (rdOf ByteArray.empty x0 x4).toList = ([] : List UInt8) then (spec_PathClean.j1 k x0 x3 x4 true) else (spec_PathClean.j1 k x0 x3 x4 ((rdOf ByteArray.empty x0 x4).toList == ([46] : List UInt8)))) else (none)) else (some x3)
def spec_PathClean.j1 : Nat → List ByteArray → List ByteArray → Int → Bool → Option (List ByteArray)
 | 0, _, _, _, _ => none
 | k + 1, x0, x3, x4, x19 => if x19 = true then (spec_PathClean.l0 k x0 x3 (wrap64 (x4 + 1))) else (if 0 ≤ x4 then (if x4 < (x0.length : Int) then (if (rdOf ByteArray.empty x0 x4).toList = ([46, 46] : List UInt8) then (if 0 ≤ (mx (wrap64 ((x3.length : Int) - 1)) 0) then (if (mx (wrap64 ((x3.length : Int) - 1)) 0) ≤ (x3.length : Int) then (spec_PathClean.l0 k x0 (x3.take ((mx (wrap64 ((x3.length : Int) - 1)) 0) : Int).toNat) (wrap64 (x4 + 1))) else (none)) else (none)) else (if x3.length < 8796093022208 then (spec_PathClean.l0 k x0 (x3 ++ [rdOf ByteArray.empty x0 x4]) (wrap64 (x4 + 1))) else (none))) else (none)) else (none))
end
def spec_PathClean.f (k : Nat) (l0 : List ByteArray) : Option (List ByteArray) := spec_PathClean.l0 k l0 (([] : List ByteArray)) 0
theorem spec_PathClean.mono_l : ∀ k, (∀ y0 y1 y2, LeO (spec_PathClean.l0 k y0 y1 y2) (spec_PathClean.l0 (k + 1) y0 y1 y2)) ∧ (∀ y0 y1 y2 y3, LeO (spec_PathClean.j1 k y0 y1 y2 y3) (spec_PathClean.j1 (k + 1) y0 y1 y2 y3))
 | 0 => ⟨fun _ _ _ r h => by simp [spec_PathClean.l0] at h, fun _ _ _ _ r h => by simp [spec_PathClean.j1] at h⟩
 | k + 1 => by
  obtain ⟨ih0, ih1⟩ := spec_PathClean.mono_l k
  refine ⟨?_, ?_⟩
  ·intro y0 y1 y2
   unfold spec_PathClean.l0
   repeat' first
   | (with_reducible exact ih0 _ _ _)
   | (with_reducible exact ih1 _ _ _ _)
   | (with_reducible exact LeO.refl _)
   | (with_reducible exact LeO.none _)
   | (with_reducible refine LeO.ite ?_ ?_)
   | (with_reducible refine LeO.bind ?_ (fun _ => ?_))
   | exact ih0 _ _ _
   | exact ih1 _ _ _ _
   | exact LeO.none _
   | refine LeO.ite ?_ ?_
   | refine LeO.bind ?_ (fun _ => ?_)
  ·intro y0 y1 y2 y3
   unfold spec_PathClean.j1
   repeat' first
   | (with_reducible exact ih0 _ _ _)
   | (with_reducible exact ih1 _ _ _ _)
   | (with_reducible exact LeO.refl _)
   | (with_reducible exact LeO.none _)
   | (with_reducible refine LeO.ite ?_ ?_)
   | (with_reducible refine LeO.bind ?_ (fun _ => ?_))
   | exact ih0 _ _ _
   | exact ih1 _ _ _ _
   | exact LeO.none _
   | refine LeO.ite ?_ ?_
   | refine LeO.bind ?_ (fun _ => ?_)
theorem spec_PathClean.mono : ∀ a0 k, LeO (spec_PathClean.f k a0) (spec_PathClean.f (k + 1) a0) := by
 intro a0 k
 obtain ⟨ih0, ih1⟩ := spec_PathClean.mono_l k
 unfold spec_PathClean.f
 repeat' first
   | (with_reducible exact ih0 _ _ _)
   | (with_reducible exact ih1 _ _ _ _)
   | (with_reducible exact LeO.refl _)
   | (with_reducible exact LeO.none _)
   | (with_reducible refine LeO.ite ?_ ?_)
   | (with_reducible refine LeO.bind ?_ (fun _ => ?_))
   | exact ih0 _ _ _
   | exact ih1 _ _ _ _
   | exact LeO.none _
   | refine LeO.ite ?_ ?_
   | refine LeO.bind ?_ (fun _ => ?_)
theorem spec_PathClean.calls (k : Nat) (A0 : Option Addr) (c0 : Nat) (l0 : List ByteArray) (r : List ByteArray) (w : World) (hr0 : Kd.C Kd.string w A0 l0.length l0) (hc0 : l0.length ≤ c0) (h : spec_PathClean.f k l0 = some r) :
  Calls Try.prog 5 #[.slice A0 l0.length c0] w fun e w' => ∃ v0_ : Value, e = .returned (v0_) ∧ Kd.R Kd.string 9 w' w.heap.size (fun _ => True) v0_ r ∧ Below w.heap.size w w' := by
 have HR0 := Aside0.mk hr0
 have HC0 := Aside0.mk hc0
 clear hr0 hc0
 have HB := Aside0.mk (Below.refl w.heap.size w)
 have H : (spec_PathClean.l0 k l0 (([] : List ByteArray)) 0) = some r := h
 clear h
 obtain ⟨y102, hy102⟩ : ∃ y_ : List ByteArray, y_ = (([] : List ByteArray)) := ⟨_, rfl⟩
 replace H : (spec_PathClean.l0 k l0 y102 0) = some r := by first | (rw [hy102]; with_reducible exact H) | (have H2_ := (Option.bind_some _ _).symm.trans H; rw [hy102]; with_reducible exact H2_) | (have H2_ := (Option.bind_some _ _).symm.trans H; with_reducible exact H2_) | with_reducible exact H | (rw [hy102]; exact H) | exact H
 have Ny102 := Aside0.mk hy102
 clear hy102
 have H' := Aside0.mk H
 clear H
 go_enter Try.func5, Try.ntmps5
 go_wp2_with (first | ((with_reducible refine gate_dst (N := 5) rfl ?_); refine Kd.R_lit Kd.string _ 9 ?hg (N := 5) ?hd (xs := ([] : List ByteArray)) (inner := []) (ok := fun _ => True) (okp := fun _ => True) ?hr ?hp (fun _ hk => hk) trivial (Below.refl _ _) (Nat.le_refl _) (by simp) ?_; (case hd => rfl); (case hg => rfl); (case hr => first | (go_simp; done) | (go_simp; rfl)); (case hp => exact (Reps.none _ _)); intro v103 w2 ho3 hb hg_ hnew_; clear hg_ hnew_; (first | rw [← Ny102.out] at ho3 | (simp only [Int.reduceToNat] at ho3; rw [← Ny102.out] at ho3)); have n0_ := Aside0.mk (Kd.R_lower ho3 (below_size (by repeat (first | (with_reducible first | exact HB.out | apply below_alloc | apply pw_below_drewN | apply below_drew1) | exact HB.out)))); have n1_ := Aside0.mk (below_step (by repeat (first | (with_reducible first | exact HB.out | apply below_alloc | apply pw_below_drewN | apply below_drew1) | exact HB.out)) hb); clear HB; have HO104 := n0_; have HB := n1_; clear n0_ n1_; clear hb ho3))
 go_loopg [3, 4] k (fun kq v3 v4 w' => ∃ (x3_1 : List ByteArray) (x4_1 : Int), v4 = .int .i64 x4_1 ∧ Aside0 (spec_PathClean.l0 kq l0 x3_1 x4_1 = some r) ∧ Aside0 (kq ≤ k) ∧ Aside0 (Kd.R Kd.string 9 w' w.heap.size (fun _ => True) v3 x3_1) ∧ Aside0 (Below w.heap.size w w'))
 case atStart => exact ⟨(y102), (0), (by first | rfl | (simp; done) | (simp only [i64_w, i32_w]; done) | (simp only [i64_w, i32_w]; rfl) | (simp [*]; done) | (simp [emp_bne, emp_beq]; done)), H', ⟨Nat.le_refl _⟩, ⟨by (with_reducible repeat (first | apply Kd.R_alloc | apply Kd.R_drewN | apply Kd.R_drew)); exact HO104.out⟩, ⟨by repeat (first | (with_reducible first | exact HB.out | apply below_alloc | apply pw_below_drewN | apply below_drew1) | exact HB.out)⟩⟩
 case round =>
  clear H'
  try clear p2
  obtain ⟨x3_1, x4_1, rfl, HA, HK1, HO_3, HB⟩ := hrel
  cases gk with
  | zero => exact absurd HA.out (by simp [spec_PathClean.l0])
  | succ k1 =>
   have H := HA.out
   clear HA
   simp only [spec_PathClean.l0] at H
   by_cases c4 : x4_1 < (l0.length : Int)
   ·rw [if_pos c4] at H
    have c4b0 : decide (x4_1 < (l0.length : Int)) = true := decide_eq_true c4
    clear c4
    have HC5 := Aside0.mk H
    clear H
    go_upto_region 6 with (fail)
    go_cut [19] (fun v19 wc => ∃ (kq : Nat) (x19_4 : Bool), v19 = .bool x19_4 ∧ Aside0 (spec_PathClean.j1 kq l0 x3_1 x4_1 x19_4 = some r) ∧ Aside0 (kq ≤ k1) ∧ Aside0 (Kd.R Kd.string 9 wc w.heap.size (fun _ => True) u3 x3_1) ∧ Aside0 (Below w.heap.size w wc))
    case first =>
     have H := HC5.out
     clear HC5
     by_cases c6 : 0 ≤ x4_1
     ·rw [if_pos c6] at H
      have c6b0 : decide (0 ≤ x4_1) = true := decide_eq_true c6
      clear c6
      (first | rw [c6b0] | (simp only [i64_w, i32_w]; rw [c6b0]) | skip)
      by_cases c7 : (rdOf ByteArray.empty l0 x4_1).toList = ([] : List UInt8)
      ·rw [if_pos c7] at H
       (try (have c7b0 : (rdOf ByteArray.empty l0 x4_1).toList.isEmpty = true := by simpa using c7))
       have c7b1 : ((rdOf ByteArray.empty l0 x4_1).toList == ([] : List UInt8)) = true := beq_iff_eq.mpr c7
       have c7b2 : ((rdOf ByteArray.empty l0 x4_1).toList != ([] : List UInt8)) = false := bne_eq_false_iff_eq.mpr c7
       clear c7
       have H' := Aside0.mk H
       clear H
       have p105 : 0 ≤ (x4_1 : Int) := of_decide_eq_true (by first | (with_reducible assumption) | assumption)
       have q105 : x4_1 < (l0.length : Int) := of_decide_eq_true (by first | (with_reducible assumption) | assumption)
       obtain ⟨ad105, e105, hx105_0⟩ := Kd.at_string HR0.out x4_1 p105 q105
       cases e105
       replace hx105_0 := (HB.out.cell (World.block_lt_of_cell? w _ hx105_0)).trans hx105_0
       replace p105 := eq_true p105
       replace q105 := eq_true q105
       go_wp2
       go_meet
       case rel => exact ⟨_, (true), (by first | rfl | (simp; done) | (simp only [i64_w, i32_w]; done) | (simp only [i64_w, i32_w]; rfl) | (simp [*]; done) | (simp [emp_bne, emp_beq]; done)), H', ⟨by have := HK1.out; first | omega | exact Nat.le_refl _⟩, ⟨by (with_reducible repeat (first | apply Kd.R_alloc | apply Kd.R_drewN | apply Kd.R_drew)); exact HO_3.out⟩, ⟨by repeat (first | (with_reducible first | exact HB.out | apply below_alloc | apply pw_below_drewN | apply below_drew1) | exact HB.out)⟩⟩
      ·rw [if_neg c7] at H
       (try (have c7b0 : (rdOf ByteArray.empty l0 x4_1).toList.isEmpty = false := by simpa using c7))
       have c7b1 : ((rdOf ByteArray.empty l0 x4_1).toList == ([] : List UInt8)) = false := beq_eq_false_iff_ne.mpr c7
       have c7b2 : ((rdOf ByteArray.empty l0 x4_1).toList != ([] : List UInt8)) = true := bne_iff_ne.mpr c7
       have H' := Aside0.mk H
       clear H
       have p105 : 0 ≤ (x4_1 : Int) := of_decide_eq_true (by first | (with_reducible assumption) | assumption)
       have q105 : x4_1 < (l0.length : Int) := of_decide_eq_true (by first | (with_reducible assumption) | assumption)
       obtain ⟨ad105, e105, hx105_0⟩ := Kd.at_string HR0.out x4_1 p105 q105
       cases e105
       replace hx105_0 := (HB.out.cell (World.block_lt_of_cell? w _ hx105_0)).trans hx105_0
       replace p105 := eq_true p105
       replace q105 := eq_true q105
       have p106 : 0 ≤ (x4_1 : Int) := of_decide_eq_true (by first | (with_reducible assumption) | assumption)
       have q106 : x4_1 < (l0.length : Int) := of_decide_eq_true (by first | (with_reducible assumption) | assumption)
       obtain ⟨ad106, e106, hx106_0⟩ := Kd.at_string HR0.out x4_1 p106 q106
       obtain rfl : ad105 = ad106 := (by injection e106)
       replace hx106_0 := (HB.out.cell (World.block_lt_of_cell? w _ hx106_0)).trans hx106_0
       replace p106 := eq_true p106
       replace q106 := eq_true q106
       go_wp2
       go_meet
       case rel => exact ⟨_, (((rdOf ByteArray.empty l0 x4_1).toList == ([46] : List UInt8))), (by first | rfl | (simp; done) | (simp only [i64_w, i32_w]; done) | (simp only [i64_w, i32_w]; rfl) | (simp [*]; done) | (simp [emp_bne, emp_beq]; done)), H', ⟨by have := HK1.out; first | omega | exact Nat.le_refl _⟩, ⟨by (with_reducible repeat (first | apply Kd.R_alloc | apply Kd.R_drewN | apply Kd.R_drew)); exact HO_3.out⟩, ⟨by repeat (first | (with_reducible first | exact HB.out | apply below_alloc | apply pw_below_drewN | apply below_drew1) | exact HB.out)⟩⟩
     ·rw [if_neg c6] at H
      exact absurd H (by simp)
    case rest =>
     clear HC5
     try clear p1
     try clear q1
     try clear hx1
     try clear p2
     try clear c4
     try clear c4b0
     try clear c5
     try clear c6
     try clear c6b0
     try clear c7
     try clear c7b0
     try clear c7b1
     try clear c7b2
     try clear hx105_0
     try clear hx106_0
     try clear p105
     try clear p106
     try clear p2
     try clear q105
     try clear q106
     obtain ⟨kq, x19_4, rfl, HA, HJ4, HO_3, HB⟩ := hcut
     cases kq with
     | zero => exact absurd HA.out (by simp [spec_PathClean.j1])
     | succ kj4 =>
      have H := HA.out
      clear HA
      simp only [spec_PathClean.j1] at H
      by_cases c8 : x19_4 = true
      ·subst c8
       have H1 : (spec_PathClean.l0 kj4 l0 x3_1 (wrap64 (x4_1 + 1))) = some r := by rw [if_pos rfl] at H; exact H
       clear H
       have H := H1
       clear H1
       have H' := Aside0.mk H
       clear H
       go_wp2
       go_roundg kj4
       case measure => have := HK1.out; have := HJ4.out; omega
       case rel => exact ⟨(x3_1), (wrap64 (x4_1 + 1)), (by first | rfl | (simp; done) | (simp only [i64_w, i32_w]; done) | (simp only [i64_w, i32_w]; rfl) | (simp [*]; done) | (simp [emp_bne, emp_beq]; done)), H', ⟨by have := HK1.out; have := HJ4.out; omega⟩, ⟨by (with_reducible repeat (first | apply Kd.R_alloc | apply Kd.R_drewN | apply Kd.R_drew)); exact HO_3.out⟩, ⟨by repeat (first | (with_reducible first | exact HB.out | apply below_alloc | apply pw_below_drewN | apply below_drew1) | exact HB.out)⟩⟩
      ·replace c8 := Bool.eq_false_iff.mpr c8
       subst c8
       have H1 : (if 0 ≤ x4_1 then (if x4_1 < (l0.length : Int) then (if (rdOf ByteArray.empty l0 x4_1).toList = ([46, 46] : List UInt8) then (if 0 ≤ (mx (wrap64 ((x3_1.length : Int) - 1)) 0) then (if (mx (wrap64 ((x3_1.length : Int) - 1)) 0) ≤ (x3_1.length : Int) then (spec_PathClean.l0 kj4 l0 (x3_1.take ((mx (wrap64 ((x3_1.length : Int) - 1)) 0) : Int).toNat) (wrap64 (x4_1 + 1))) else (none)) else (none)) else (if x3_1.length < 8796093022208 then (spec_PathClean.l0 kj4 l0 (x3_1 ++ [rdOf ByteArray.empty l0 x4_1]) (wrap64 (x4_1 + 1))) else (none))) else (none)) else (none)) = some r := by rw [if_neg (show ¬ (false = true) by decide)] at H; exact H
       clear H
       have H := H1
       clear H1
       by_cases c9 : 0 ≤ x4_1
       ·rw [if_pos c9] at H
        have c9b0 : decide (0 ≤ x4_1) = true := decide_eq_true c9
        clear c9
        by_cases c10 : x4_1 < (l0.length : Int)
        ·rw [if_pos c10] at H
         have c10b0 : decide (x4_1 < (l0.length : Int)) = true := decide_eq_true c10
         clear c10
         by_cases c11 : (rdOf ByteArray.empty l0 x4_1).toList = ([46, 46] : List UInt8)
         ·rw [if_pos c11] at H
          have c11b0 : ((rdOf ByteArray.empty l0 x4_1).toList == ([46, 46] : List UInt8)) = true := beq_iff_eq.mpr c11
          have c11b1 : ((rdOf ByteArray.empty l0 x4_1).toList != ([46, 46] : List UInt8)) = false := bne_eq_false_iff_eq.mpr c11
          clear c11
          obtain ⟨ji12, hji12⟩ : ∃ j_ : Int, (mx (wrap64 ((x3_1.length : Int) - 1)) 0) = j_ := ⟨_, rfl⟩
          replace H : (if 0 ≤ (ji12) then (if (ji12) ≤ (x3_1.length : Int) then (spec_PathClean.l0 kj4 l0 (x3_1.take ((ji12) : Int).toNat) (wrap64 (x4_1 + 1))) else (none)) else (none)) = some r := by first | (rw [hji12] at H; exact H) | (simp only [hji12] at H ⊢; exact H)
          have hji12_ : (if (wrap64 ((x3_1.length : Int) - 1)) < 0 then 0 else (wrap64 ((x3_1.length : Int) - 1))) = ji12 := hji12
          by_cases c13 : 0 ≤ (ji12)
          ·rw [if_pos c13] at H
           have c13b0 := eq_true c13
           have c13b1 := decide_eq_true c13
           clear c13
           by_cases c14 : (ji12) ≤ (x3_1.length : Int)
           ·rw [if_pos c14] at H
            have c14b0 := eq_true c14
            have c14b1 := decide_eq_true c14
            clear c14
            obtain ⟨y108, hy108⟩ : ∃ y_ : List ByteArray, y_ = (x3_1.take ((ji12) : Int).toNat) := ⟨_, rfl⟩
            replace H : (spec_PathClean.l0 kj4 l0 y108 (wrap64 (x4_1 + 1))) = some r := by first | (rw [hy108]; with_reducible exact H) | (have H2_ := (Option.bind_some _ _).symm.trans H; rw [hy108]; with_reducible exact H2_) | (have H2_ := (Option.bind_some _ _).symm.trans H; with_reducible exact H2_) | with_reducible exact H | (rw [hy108]; exact H) | exact H
            have Ny108 := Aside0.mk hy108
            clear hy108
            have H' := Aside0.mk H
            clear H
            have p107 : 0 ≤ (x4_1 : Int) := of_decide_eq_true (by first | (with_reducible assumption) | assumption)
            have q107 : x4_1 < (l0.length : Int) := of_decide_eq_true (by first | (with_reducible assumption) | assumption)
            obtain ⟨ad107, e107, hx107_0⟩ := Kd.at_string HR0.out x4_1 p107 q107
            cases e107
            replace hx107_0 := (HB.out.cell (World.block_lt_of_cell? w _ hx107_0)).trans hx107_0
            replace p107 := eq_true p107
            replace q107 := eq_true q107
            obtain ⟨Ao15, co15, eo15⟩ := Kd.R_slice HO_3.out
            subst eo15
            have q16 : ((ji12) : Int) ≤ ((x3_1.length : Int) : Int) := of_decide_eq_true (by first | (with_reducible assumption) | assumption)
            obtain ⟨i016, hi016, _, hsz16, _⟩ := info_parts info9
            have hcut16 := cut_to (P := Try.prog) 22 9 .i64 Try.underlying22 hi016 Ao15 x3_1.length co15 (ji12) (of_decide_eq_true (by first | (with_reducible assumption) | assumption)) q16 (Kd.R_reads' HO_3.out).2.1
            have hr16 := Kd.R_take (m := ((ji12) : Int).toNat) HO_3.out (by omega)
            have hy16 : y108.length = ((ji12) : Int).toNat := (by rw [Ny108.out, List.length_take]; omega)
            rw [← Ny108.out] at hr16
            rw [← hy16] at hr16 hcut16
            clear hy16 hi016 hsz16 HO_3
            have HO110 := Aside0.mk hr16
            clear hr16
            replace q16 := eq_true q16
            go_wp2
            go_roundg kj4
            case measure => have := HK1.out; have := HJ4.out; omega
            case rel => exact ⟨(y108), (wrap64 (x4_1 + 1)), (by first | rfl | (simp; done) | (simp only [i64_w, i32_w]; done) | (simp only [i64_w, i32_w]; rfl) | (simp [*]; done) | (simp [emp_bne, emp_beq]; done)), H', ⟨by have := HK1.out; have := HJ4.out; omega⟩, ⟨by (with_reducible repeat (first | apply Kd.R_alloc | apply Kd.R_drewN | apply Kd.R_drew)); exact HO110.out⟩, ⟨by repeat (first | (with_reducible first | exact HB.out | apply below_alloc | apply pw_below_drewN | apply below_drew1) | exact HB.out)⟩⟩
           ·rw [if_neg c14] at H
            exact absurd H (by simp)
          ·rw [if_neg c13] at H
           exact absurd H (by simp)
         ·rw [if_neg c11] at H
          have c11b0 : ((rdOf ByteArray.empty l0 x4_1).toList == ([46, 46] : List UInt8)) = false := beq_eq_false_iff_ne.mpr c11
          have c11b1 : ((rdOf ByteArray.empty l0 x4_1).toList != ([46, 46] : List UInt8)) = true := bne_iff_ne.mpr c11
          by_cases c17 : x3_1.length < 8796093022208
          ·rw [if_pos c17] at H
           have LMc17 := Aside0.mk c17
           clear c17
           obtain ⟨y112, hy112⟩ : ∃ y_ : List ByteArray, y_ = (x3_1 ++ [rdOf ByteArray.empty l0 x4_1]) := ⟨_, rfl⟩
           replace H : (spec_PathClean.l0 kj4 l0 y112 (wrap64 (x4_1 + 1))) = some r := by first | (rw [hy112]; with_reducible exact H) | (have H2_ := (Option.bind_some _ _).symm.trans H; rw [hy112]; with_reducible exact H2_) | (have H2_ := (Option.bind_some _ _).symm.trans H; with_reducible exact H2_) | with_reducible exact H | (rw [hy112]; exact H) | exact H
           have Ny112 := Aside0.mk hy112
           clear hy112
           have H' := Aside0.mk H
           clear H
           have p107 : 0 ≤ (x4_1 : Int) := of_decide_eq_true (by first | (with_reducible assumption) | assumption)
           have q107 : x4_1 < (l0.length : Int) := of_decide_eq_true (by first | (with_reducible assumption) | assumption)
           obtain ⟨ad107, e107, hx107_0⟩ := Kd.at_string HR0.out x4_1 p107 q107
           cases e107
           replace hx107_0 := (HB.out.cell (World.block_lt_of_cell? w _ hx107_0)).trans hx107_0
           replace p107 := eq_true p107
           replace q107 := eq_true q107
           have p111 : 0 ≤ (x4_1 : Int) := of_decide_eq_true (by first | (with_reducible assumption) | assumption)
           have q111 : x4_1 < (l0.length : Int) := of_decide_eq_true (by first | (with_reducible assumption) | assumption)
           obtain ⟨ad111, e111, hx111_0⟩ := Kd.at_string HR0.out x4_1 p111 q111
           obtain rfl : ad107 = ad111 := (by injection e111)
           replace hx111_0 := (HB.out.cell (World.block_lt_of_cell? w _ hx111_0)).trans hx111_0
           replace p111 := eq_true p111
           replace q111 := eq_true q111
           go_wp2_with (first | ((with_reducible refine gate_builtin (b := .append) (xs := #[.tmp 12, .tmp 17]) rfl ?_); at_builtin; refine Kd.R_append Kd.string (w0 := w) w.heap.size rfl (.tmp 12) (.tmp 17) 22 9 (.string ⟨#[]⟩) 16 rfl Try.underlying22 info9 rfl (by decide) (by omega) u3 x3_1 (rdOf ByteArray.empty l0 x4_1) [.string (rdOf ByteArray.empty l0 x4_1)] (fun _ => True) (fun _ => False) rfl rfl ?aP (fun _ hk => hk.elim) ?aF ?aO ?aB ?aS ?aL ?_; (case aP => exact rfl); (case aB => exact (by repeat (first | (with_reducible first | exact HB.out | apply below_alloc | apply pw_below_drewN | apply below_drew1) | exact HB.out))); (case aF => exact (fun _ _ => trivial)); (case aO => exact (by (with_reducible repeat (first | apply Kd.R_alloc | apply Kd.R_drewN | apply Kd.R_drew)); exact HO_3.out)); (case aS => exact (below_size (by repeat (first | (with_reducible first | exact HB.out | apply below_alloc | apply pw_below_drewN | apply below_drew1) | exact HB.out)))); (case aL => have := LMc17.out; omega); intro v113 w18 ho hb hg hat; rw [← Ny112.out] at ho; have n0_ := Aside0.mk (hb); have n1_ := Aside0.mk (ho); clear HB; clear HO_3; have HB := n0_; have HO114 := n1_; clear n0_ n1_; clear ho hb hg hat))
           go_roundg kj4
           case measure => have := HK1.out; have := HJ4.out; omega
           case rel => exact ⟨(y112), (wrap64 (x4_1 + 1)), (by first | rfl | (simp; done) | (simp only [i64_w, i32_w]; done) | (simp only [i64_w, i32_w]; rfl) | (simp [*]; done) | (simp [emp_bne, emp_beq]; done)), H', ⟨by have := HK1.out; have := HJ4.out; omega⟩, ⟨by (with_reducible repeat (first | apply Kd.R_alloc | apply Kd.R_drewN | apply Kd.R_drew)); exact HO114.out⟩, ⟨by repeat (first | (with_reducible first | exact HB.out | apply below_alloc | apply pw_below_drewN | apply below_drew1) | exact HB.out)⟩⟩
          ·rw [if_neg c17] at H
           exact absurd H (by simp)
        ·rw [if_neg c10] at H
         exact absurd H (by simp)
       ·rw [if_neg c9] at H
        exact absurd H (by simp)
   ·rw [if_neg c4] at H
    have c4b0 : decide (x4_1 < (l0.length : Int)) = false := decide_eq_false c4
    clear c4
    obtain rfl := Option.some.inj H
    go_wp2
    go_ret
    exact ⟨_, by first | rfl | (simp <;> rfl) | (simp [*] <;> rfl), by (with_reducible repeat (first | apply Kd.R_alloc | apply Kd.R_drewN | apply Kd.R_drew)); exact HO_3.out, by repeat (first | (with_reducible first | exact HB.out | apply below_alloc | apply pw_below_drewN | apply below_drew1) | exact HB.out)⟩

/-! ### laws_toStringS: function 6 -/
def laws_toStringS.l0 : Nat → List ByteArray → List ByteArray → Int → Option (List ByteArray)
 | 0, _, _, _ => none
 | k + 1, x0, x3, x4 => if x4 < (x0.length : Int) then (if 0 ≤ x4 then (if x4 < (x3.length : Int) then (laws_toStringS.l0 k x0 (x3.set (x4 : Int).toNat (rdOf ByteArray.empty x0 x4)) (wrap64 (x4 + 1))) else (none)) else (none)) else (some x3)
def laws_toStringS.f (k : Nat) (l0 : List ByteArray) : Option (List ByteArray) := if 0 ≤ (l0.length : Int) then (if ((l0.length : Int) : Int).toNat ≤ 17592186044416 then (laws_toStringS.l0 k l0 (List.replicate ((l0.length : Int) : Int).toNat (⟨#[]⟩ : ByteArray)) 0) else (none)) else (none)
theorem laws_toStringS.mono_l : ∀ k, (∀ y0 y1 y2, LeO (laws_toStringS.l0 k y0 y1 y2) (laws_toStringS.l0 (k + 1) y0 y1 y2))
 | 0 => fun _ _ _ r h => by simp [laws_toStringS.l0] at h
 | k + 1 => by
  have ih0 := laws_toStringS.mono_l k
  ·intro y0 y1 y2
   unfold laws_toStringS.l0
   repeat' first
   | (with_reducible exact ih0 _ _ _)
   | (with_reducible exact LeO.refl _)
   | (with_reducible exact LeO.none _)
   | (with_reducible refine LeO.ite ?_ ?_)
   | (with_reducible refine LeO.bind ?_ (fun _ => ?_))
   | exact ih0 _ _ _
   | exact LeO.none _
   | refine LeO.ite ?_ ?_
   | refine LeO.bind ?_ (fun _ => ?_)
theorem laws_toStringS.mono : ∀ a0 k, LeO (laws_toStringS.f k a0) (laws_toStringS.f (k + 1) a0) := by
 intro a0 k
 have ih0 := laws_toStringS.mono_l k
 unfold laws_toStringS.f
 repeat' first
   | (with_reducible exact ih0 _ _ _)
   | (with_reducible exact LeO.refl _)
   | (with_reducible exact LeO.none _)
   | (with_reducible refine LeO.ite ?_ ?_)
   | (with_reducible refine LeO.bind ?_ (fun _ => ?_))
   | exact ih0 _ _ _
   | exact LeO.none _
   | refine LeO.ite ?_ ?_
   | refine LeO.bind ?_ (fun _ => ?_)
theorem laws_toStringS.calls (k : Nat) (A0 : Option Addr) (c0 : Nat) (l0 : List ByteArray) (r : List ByteArray) (w : World) (hr0 : Kd.C Kd.string w A0 l0.length l0) (hc0 : l0.length ≤ c0) (h : laws_toStringS.f k l0 = some r) :
  Calls Try.prog 6 #[.slice A0 l0.length c0] w fun e w' => ∃ v0_ : Value, e = .returned (v0_) ∧ Kd.R Kd.string 9 w' w.heap.size (fun _ => True) v0_ r ∧ Below w.heap.size w w' := by
 have HR0 := Aside0.mk hr0
 have HC0 := Aside0.mk hc0
 clear hr0 hc0
 have HB := Aside0.mk (Below.refl w.heap.size w)
 have H : (if 0 ≤ (l0.length : Int) then (if ((l0.length : Int) : Int).toNat ≤ 17592186044416 then (laws_toStringS.l0 k l0 (List.replicate ((l0.length : Int) : Int).toNat (⟨#[]⟩ : ByteArray)) 0) else (none)) else (none)) = some r := h
 clear h
 by_cases c2 : 0 ≤ (l0.length : Int)
 ·rw [if_pos c2] at H
  have c2b0 := eq_true c2
  have c2b1 := decide_eq_true c2
  clear c2
  by_cases c3 : ((l0.length : Int) : Int).toNat ≤ 17592186044416
  ·rw [if_pos c3] at H
   have c3b0 := eq_true c3
   have c3b1 := decide_eq_true c3
   clear c3
   obtain ⟨y115, hy115⟩ : ∃ y_ : List ByteArray, y_ = (List.replicate ((l0.length : Int) : Int).toNat (⟨#[]⟩ : ByteArray)) := ⟨_, rfl⟩
   replace H : (laws_toStringS.l0 k l0 y115 0) = some r := by first | (rw [hy115]; with_reducible exact H) | (have H2_ := (Option.bind_some _ _).symm.trans H; rw [hy115]; with_reducible exact H2_) | (have H2_ := (Option.bind_some _ _).symm.trans H; with_reducible exact H2_) | with_reducible exact H | (rw [hy115]; exact H) | exact H
   have Ny115 := Aside0.mk hy115
   clear hy115
   have H' := Aside0.mk H
   clear H
   go_enter Try.func6, Try.ntmps6
   go_wp2_with (first | ((with_reducible refine gate_dst (N := 7) rfl ?_); refine Kd.R_make Kd.string _ 9 rfl (N := 7) rfl 22 _ _ rfl (l0.length : Int) rfl rfl Try.underlying22 (.string ⟨#[]⟩) 16 info9 rfl (by decide) (by omega) (⟨#[]⟩ : ByteArray) (ok := fun _ => True) (okp := fun _ => True) rfl (fun _ hk => hk) trivial (of_decide_eq_true (by first | (with_reducible assumption) | assumption)) (Nat.le_trans (Nat.mul_le_mul_right _ (of_decide_eq_true (by first | (with_reducible assumption) | assumption) : (l0.length : Int).toNat ≤ 17592186044416)) (by omega)) (Below.refl _ _) (Nat.le_refl _) ?_; intro v116 w4 ho5 hb hg_ hnew_; clear hg_ hnew_; (first | rw [← Ny115.out] at ho5 | (simp only [Int.reduceToNat] at ho5; rw [← Ny115.out] at ho5)); have n0_ := Aside0.mk (Kd.R_lower ho5 (below_size (by repeat (first | (with_reducible first | exact HB.out | apply below_alloc | apply pw_below_drewN | apply below_drew1) | exact HB.out)))); have n1_ := Aside0.mk (below_step (by repeat (first | (with_reducible first | exact HB.out | apply below_alloc | apply pw_below_drewN | apply below_drew1) | exact HB.out)) hb); clear HB; have HO117 := n0_; have HB := n1_; clear n0_ n1_; clear hb ho5))
   go_loopg [4] k (fun kq v4 w' => ∃ (x3_1 : List ByteArray) (x4_1 : Int), v4 = .int .i64 x4_1 ∧ Aside0 (laws_toStringS.l0 kq l0 x3_1 x4_1 = some r) ∧ Aside0 (kq ≤ k) ∧ Aside0 (Kd.R Kd.string 9 w' w.heap.size (fun _ => True) v116 x3_1) ∧ Aside0 (Below w.heap.size w w'))
   case atStart => exact ⟨(y115), (0), (by first | rfl | (simp; done) | (simp only [i64_w, i32_w]; done) | (simp only [i64_w, i32_w]; rfl) | (simp [*]; done) | (simp [emp_bne, emp_beq]; done)), H', ⟨Nat.le_refl _⟩, ⟨by (with_reducible repeat (first | apply Kd.R_alloc | apply Kd.R_drewN | apply Kd.R_drew)); exact HO117.out⟩, ⟨by repeat (first | (with_reducible first | exact HB.out | apply below_alloc | apply pw_below_drewN | apply below_drew1) | exact HB.out)⟩⟩
   case round =>
    clear H'
    try clear c2
    try clear c2b0
    try clear c2b1
    try clear p2
    try clear c3
    try clear c3b0
    try clear c3b1
    obtain ⟨x3_1, x4_1, rfl, HA, HK1, HO_3, HB⟩ := hrel
    cases gk with
    | zero => exact absurd HA.out (by simp [laws_toStringS.l0])
    | succ k1 =>
     have H := HA.out
     clear HA
     simp only [laws_toStringS.l0] at H
     by_cases c6 : x4_1 < (l0.length : Int)
     ·rw [if_pos c6] at H
      have c6b0 : decide (x4_1 < (l0.length : Int)) = true := decide_eq_true c6
      clear c6
      by_cases c7 : 0 ≤ x4_1
      ·rw [if_pos c7] at H
       have c7b0 : decide (0 ≤ x4_1) = true := decide_eq_true c7
       clear c7
       by_cases c8 : x4_1 < (x3_1.length : Int)
       ·rw [if_pos c8] at H
        have c8b0 : decide (x4_1 < (x3_1.length : Int)) = true := decide_eq_true c8
        clear c8
        obtain ⟨y119, hy119⟩ : ∃ y_ : List ByteArray, y_ = (x3_1.set (x4_1 : Int).toNat (rdOf ByteArray.empty l0 x4_1)) := ⟨_, rfl⟩
        replace H : (laws_toStringS.l0 k1 l0 y119 (wrap64 (x4_1 + 1))) = some r := by first | (rw [hy119]; with_reducible exact H) | (have H2_ := (Option.bind_some _ _).symm.trans H; rw [hy119]; with_reducible exact H2_) | (have H2_ := (Option.bind_some _ _).symm.trans H; with_reducible exact H2_) | with_reducible exact H | (rw [hy119]; exact H) | exact H
        have Ny119 := Aside0.mk hy119
        clear hy119
        have H' := Aside0.mk H
        clear H
        have p118 : 0 ≤ (x4_1 : Int) := of_decide_eq_true (by first | (with_reducible assumption) | assumption)
        have q118 : x4_1 < (l0.length : Int) := of_decide_eq_true (by first | (with_reducible assumption) | assumption)
        obtain ⟨ad118, e118, hx118_0⟩ := Kd.at_string HR0.out x4_1 p118 q118
        cases e118
        replace hx118_0 := (HB.out.cell (World.block_lt_of_cell? w _ hx118_0)).trans hx118_0
        replace p118 := eq_true p118
        replace q118 := eq_true q118
        have p9 : 0 ≤ (x4_1 : Int) := of_decide_eq_true (by first | (with_reducible assumption) | assumption)
        have q9 : (x4_1 : Int) < ((x3_1.length : Int) : Int) := of_decide_eq_true (by first | (with_reducible assumption) | assumption)
        obtain ⟨go9, co9, eo9, gb9, gl9, cl9, HG9⟩ := Kd.R_form HO_3.out (by omega)
        (first | cases eo9 | (injection eo9 with ea_ en_ ec_; (first | subst ea_ | (injection ea_ with ea_; subst ea_)); subst ec_; clear en_))
        have GB9 := Aside0.mk gb9
        have GG9 := Aside0.mk HG9
        clear gb9 gl9 HG9
        obtain ⟨hx9_0, hf9_0⟩ := Kd.R_celln (⟨#[]⟩ : ByteArray) HO_3.out (x4_1 : Int) p9 q9
        replace p9 := eq_true p9
        replace q9 := eq_true q9
        have HP10 := Kd.R_putg HO_3.out (x4_1 : Int) (rdOf ByteArray.empty l0 x4_1)
        go_wp2_with (first | ((with_reducible refine gate_store (t := 9) (p := 20) rfl ?_); refine store_event (t := 9) (p := 20) (v := ?vo_w11) (w1 := (wr.setCell ⟨go9, (x4_1 : Int).toNat, none⟩ (.string (rdOf ByteArray.empty l0 x4_1)))) ?hg ?ho ?hn ?hr ?_; (case ho => rfl); (case hg => rfl); (case hn => rfl); (case hr => first | (go_simp; done) | (go_simp; rfl)); intro w11 hw; have hg : wr.grownBy w11 (some go9) := (by rw [hw]; exact HP10.2); have hp_ : Kd.R Kd.string 9 w11 w.heap.size (fun _ => True) (.slice (some ⟨go9, 0, none⟩) x3_1.length co9) y119 := (by rw [hw, Ny119.out]; exact HP10.1); clear HP10; have n0_ := Aside0.mk (hp_); have n1_ := Aside0.mk ((by rw [hw]; exact below_set (HB.out) GB9.out : Below w.heap.size w w11)); clear HO_3; clear HB; have HO_3 := n0_; have HB := n1_; clear n0_ n1_; clear hg hw hp_))
        go_roundg k1
        case measure => have := HK1.out; omega
        case rel => exact ⟨(y119), (wrap64 (x4_1 + 1)), (by first | rfl | (simp; done) | (simp only [i64_w, i32_w]; done) | (simp only [i64_w, i32_w]; rfl) | (simp [*]; done) | (simp [emp_bne, emp_beq]; done)), H', ⟨by have := HK1.out; omega⟩, ⟨by (with_reducible repeat (first | apply Kd.R_alloc | apply Kd.R_drewN | apply Kd.R_drew)); exact HO_3.out⟩, ⟨by repeat (first | (with_reducible first | exact HB.out | apply below_alloc | apply pw_below_drewN | apply below_drew1) | exact HB.out)⟩⟩
       ·rw [if_neg c8] at H
        exact absurd H (by simp)
      ·rw [if_neg c7] at H
       exact absurd H (by simp)
     ·rw [if_neg c6] at H
      have c6b0 : decide (x4_1 < (l0.length : Int)) = false := decide_eq_false c6
      clear c6
      obtain rfl := Option.some.inj H
      go_wp2
      go_ret
      exact ⟨_, by first | rfl | (simp <;> rfl) | (simp [*] <;> rfl), by (with_reducible repeat (first | apply Kd.R_alloc | apply Kd.R_drewN | apply Kd.R_drew)); exact HO_3.out, by repeat (first | (with_reducible first | exact HB.out | apply below_alloc | apply pw_below_drewN | apply below_drew1) | exact HB.out)⟩
  ·rw [if_neg c3] at H
   exact absurd H (by simp)
 ·rw [if_neg c2] at H
  exact absurd H (by simp)

/-! ### impl_PathClean: function 7 -/
mutual
def impl_PathClean.l0 : Nat → List ByteArray → List ByteArray → Int → Int → Option (List ByteArray)
 | 0, _, _, _, _ => none
 | k + 1, x3, x6, x7, x8 => if x8 < x7 then (if 0 ≤ x8 then (if x8 < (x6.length : Int) then (if (rdOf ByteArray.empty x6 x8).toList = ([] : List UInt8) then (impl_PathClean.j1 k x3 (rdOf ByteArray.empty x6 x8) x6 x7 x8 (rdOf ByteArray.empty x6 x8) ((rdOf ByteArray.empty x6 x8).toList == ([] : List UInt8))) else (impl_PathClean.j1 k x3 (rdOf ByteArray.empty x6 x8) x6 x7 x8 (rdOf ByteArray.empty x6 x8) ((rdOf ByteArray.empty x6 x8).toList == ([46] : List UInt8)))) else (none)) else (none)) else (some x3)
def impl_PathClean.j1 : Nat → List ByteArray → ByteArray → List ByteArray → Int → Int → ByteArray → Bool → Option (List ByteArray)
 | 0, _, _, _, _, _, _, _ => none
 | k + 1, x3, x5, x6, x7, x8, x12, x13 => if x13 = true then (impl_PathClean.l0 k x3 x6 x7 (wrap64 (x8 + 1))) else (if x12.toList = ([46, 46] : List UInt8) then (if (x3.length : Int) > 0 then (if 0 ≤ (wrap64 ((x3.length : Int) - 1)) then (if (wrap64 ((x3.length : Int) - 1)) ≤ (x3.length : Int) then (impl_PathClean.l0 k (x3.take ((wrap64 ((x3.length : Int) - 1)) : Int).toNat) x6 x7 (wrap64 (x8 + 1))) else (none)) else (none)) else (impl_PathClean.l0 k x3 x6 x7 (wrap64 (x8 + 1)))) else (if x3.length < 8796093022208 then (impl_PathClean.l0 k (x3 ++ [x5]) x6 x7 (wrap64 (x8 + 1))) else (none)))
end
def impl_PathClean.f (k : Nat) (l0 : List ByteArray) : Option (List ByteArray) := impl_PathClean.l0 k ([] : List ByteArray) l0 (l0.length : Int) 0
theorem impl_PathClean.mono_l : ∀ k, (∀ y0 y1 y2 y3, LeO (impl_PathClean.l0 k y0 y1 y2 y3) (impl_PathClean.l0 (k + 1) y0 y1 y2 y3)) ∧ (∀ y0 y1 y2 y3 y4 y5 y6, LeO (impl_PathClean.j1 k y0 y1 y2 y3 y4 y5 y6) (impl_PathClean.j1 (k + 1) y0 y1 y2 y3 y4 y5 y6))
 | 0 => ⟨fun _ _ _ _ r h => by simp [impl_PathClean.l0] at h, fun _ _ _ _ _ _ _ r h => by simp [impl_PathClean.j1] at h⟩
 | k + 1 => by
  obtain ⟨ih0, ih1⟩ := impl_PathClean.mono_l k
  refine ⟨?_, ?_⟩
  ·intro y0 y1 y2 y3
   unfold impl_PathClean.l0
   repeat' first
   | (with_reducible exact ih0 _ _ _ _)
   | (with_reducible exact ih1 _ _ _ _ _ _ _)
   | (with_reducible exact LeO.refl _)
   | (with_reducible exact LeO.none _)
   | (with_reducible refine LeO.ite ?_ ?_)
   | (with_reducible refine LeO.bind ?_ (fun _ => ?_))
   | exact ih0 _ _ _ _
   | exact ih1 _ _ _ _ _ _ _
   | exact LeO.none _
   | refine LeO.ite ?_ ?_
   | refine LeO.bind ?_ (fun _ => ?_)
  ·intro y0 y1 y2 y3 y4 y5 y6
   unfold impl_PathClean.j1
   repeat' first
   | (with_reducible exact ih0 _ _ _ _)
   | (with_reducible exact ih1 _ _ _ _ _ _ _)
   | (with_reducible exact LeO.refl _)
   | (with_reducible exact LeO.none _)
   | (with_reducible refine LeO.ite ?_ ?_)
   | (with_reducible refine LeO.bind ?_ (fun _ => ?_))
   | exact ih0 _ _ _ _
   | exact ih1 _ _ _ _ _ _ _
   | exact LeO.none _
   | refine LeO.ite ?_ ?_
   | refine LeO.bind ?_ (fun _ => ?_)
theorem impl_PathClean.mono : ∀ a0 k, LeO (impl_PathClean.f k a0) (impl_PathClean.f (k + 1) a0) := by
 intro a0 k
 obtain ⟨ih0, ih1⟩ := impl_PathClean.mono_l k
 unfold impl_PathClean.f
 repeat' first
   | (with_reducible exact ih0 _ _ _ _)
   | (with_reducible exact ih1 _ _ _ _ _ _ _)
   | (with_reducible exact LeO.refl _)
   | (with_reducible exact LeO.none _)
   | (with_reducible refine LeO.ite ?_ ?_)
   | (with_reducible refine LeO.bind ?_ (fun _ => ?_))
   | exact ih0 _ _ _ _
   | exact ih1 _ _ _ _ _ _ _
   | exact LeO.none _
   | refine LeO.ite ?_ ?_
   | refine LeO.bind ?_ (fun _ => ?_)
theorem impl_PathClean.calls (k : Nat) (A0 : Option Addr) (c0 : Nat) (l0 : List ByteArray) (r : List ByteArray) (w : World) (hr0 : Kd.C Kd.string w A0 l0.length l0) (hc0 : l0.length ≤ c0) (h : impl_PathClean.f k l0 = some r) :
  Calls Try.prog 7 #[.slice A0 l0.length c0] w fun e w' => ∃ v0_ : Value, e = .returned (v0_) ∧ Kd.R Kd.string 9 w' w.heap.size (fun _ => True) v0_ r ∧ Below w.heap.size w w' := by
 have HR0 := Aside0.mk hr0
 have HC0 := Aside0.mk hc0
 clear hr0 hc0
 have HB := Aside0.mk (Below.refl w.heap.size w)
 have H : (impl_PathClean.l0 k ([] : List ByteArray) l0 (l0.length : Int) 0) = some r := h
 clear h
 have H' := Aside0.mk H
 clear H
 go_enter Try.func7, Try.ntmps7
 go_wp2
 go_step3
 go_wp2
 go_step3
 go_wp2
 go_loopg [3, 8] k (fun kq v3 v8 w' => ∃ (x3_1 : List ByteArray) (x8_1 : Int), v8 = .int .i64 x8_1 ∧ Aside0 (impl_PathClean.l0 kq x3_1 l0 (l0.length : Int) x8_1 = some r) ∧ Aside0 (kq ≤ k) ∧ Aside0 (Kd.R Kd.string 9 w' w.heap.size (fun _ => True) v3 x3_1) ∧ Aside0 (Below w.heap.size w w'))
 case atStart => exact ⟨(([] : List ByteArray)), (0), (by first | rfl | (simp; done) | (simp only [i64_w, i32_w]; done) | (simp only [i64_w, i32_w]; rfl) | (simp [*]; done) | (simp [emp_bne, emp_beq]; done)), H', ⟨Nat.le_refl _⟩, ⟨by first | exact Kd.R_nil _ _ _ _ _ | exact Kd.N_nil _ _ _ _ _ | exact Kd.V_nil _ _ _ _ _ | exact Kd.Q_nil _ _ _ _ _ | exact Kd.S_nil _ _ _ _ _⟩, ⟨by repeat (first | (with_reducible first | exact HB.out | apply below_alloc | apply pw_below_drewN | apply below_drew1) | exact HB.out)⟩⟩
 case round =>
  clear H'
  obtain ⟨x3_1, x8_1, rfl, HA, HK1, HO_3, HB⟩ := hrel
  cases gk with
  | zero => exact absurd HA.out (by simp [impl_PathClean.l0])
  | succ k1 =>
   have H := HA.out
   clear HA
   simp only [impl_PathClean.l0] at H
   by_cases c2 : x8_1 < (l0.length : Int)
   ·rw [if_pos c2] at H
    have c2b0 : decide (x8_1 < (l0.length : Int)) = true := decide_eq_true c2
    clear c2
    by_cases c3 : 0 ≤ x8_1
    ·rw [if_pos c3] at H
     have c3b0 : decide (0 ≤ x8_1) = true := decide_eq_true c3
     clear c3
     by_cases c4 : x8_1 < (l0.length : Int)
     ·rw [if_pos c4] at H
      have c4b0 : decide (x8_1 < (l0.length : Int)) = true := decide_eq_true c4
      clear c4
      have HC5 := Aside0.mk H
      clear H
      have p120 : 0 ≤ (x8_1 : Int) := of_decide_eq_true (by first | (with_reducible assumption) | assumption)
      have q120 : x8_1 < (l0.length : Int) := of_decide_eq_true (by first | (with_reducible assumption) | assumption)
      obtain ⟨ad120, e120, hx120_0⟩ := Kd.at_string HR0.out x8_1 p120 q120
      cases e120
      replace hx120_0 := (HB.out.cell (World.block_lt_of_cell? w _ hx120_0)).trans hx120_0
      replace p120 := eq_true p120
      replace q120 := eq_true q120
      go_upto_if 13 with (fail)
      go_cut [13] (fun v13 wc => ∃ (kq : Nat) (x13_4 : Bool), v13 = .bool x13_4 ∧ Aside0 (impl_PathClean.j1 kq x3_1 (rdOf ByteArray.empty l0 x8_1) l0 (l0.length : Int) x8_1 (rdOf ByteArray.empty l0 x8_1) x13_4 = some r) ∧ Aside0 (kq ≤ k1) ∧ Aside0 (Kd.R Kd.string 9 wc w.heap.size (fun _ => True) u3 x3_1) ∧ Aside0 (Below w.heap.size w wc))
      case first =>
       have H := HC5.out
       clear HC5
       by_cases c6 : (rdOf ByteArray.empty l0 x8_1).toList = ([] : List UInt8)
       ·rw [if_pos c6] at H
        (try (have c6b0 : (rdOf ByteArray.empty l0 x8_1).toList.isEmpty = true := by simpa using c6))
        have c6b1 : ((rdOf ByteArray.empty l0 x8_1).toList == ([] : List UInt8)) = true := beq_iff_eq.mpr c6
        have c6b2 : ((rdOf ByteArray.empty l0 x8_1).toList != ([] : List UInt8)) = false := bne_eq_false_iff_eq.mpr c6
        clear c6
        (first | rw [c6b0] | (simp only [i64_w, i32_w]; rw [c6b0]) | skip)
        have H' := Aside0.mk H
        clear H
        go_wp2
        go_meet
        case rel => exact ⟨_, (((rdOf ByteArray.empty l0 x8_1).toList == ([] : List UInt8))), (by first | rfl | (simp; done) | (simp only [i64_w, i32_w]; done) | (simp only [i64_w, i32_w]; rfl) | (simp [*]; done) | (simp [emp_bne, emp_beq]; done)), H', ⟨by have := HK1.out; first | omega | exact Nat.le_refl _⟩, ⟨by (with_reducible repeat (first | apply Kd.R_alloc | apply Kd.R_drewN | apply Kd.R_drew)); exact HO_3.out⟩, ⟨by repeat (first | (with_reducible first | exact HB.out | apply below_alloc | apply pw_below_drewN | apply below_drew1) | exact HB.out)⟩⟩
       ·rw [if_neg c6] at H
        (try (have c6b0 : (rdOf ByteArray.empty l0 x8_1).toList.isEmpty = false := by simpa using c6))
        have c6b1 : ((rdOf ByteArray.empty l0 x8_1).toList == ([] : List UInt8)) = false := beq_eq_false_iff_ne.mpr c6
        have c6b2 : ((rdOf ByteArray.empty l0 x8_1).toList != ([] : List UInt8)) = true := bne_iff_ne.mpr c6
        (first | rw [c6b0] | (simp only [i64_w, i32_w]; rw [c6b0]) | skip)
        have H' := Aside0.mk H
        clear H
        go_wp2
        go_meet
        case rel => exact ⟨_, (((rdOf ByteArray.empty l0 x8_1).toList == ([46] : List UInt8))), (by first | rfl | (simp; done) | (simp only [i64_w, i32_w]; done) | (simp only [i64_w, i32_w]; rfl) | (simp [*]; done) | (simp [emp_bne, emp_beq]; done)), H', ⟨by have := HK1.out; first | omega | exact Nat.le_refl _⟩, ⟨by (with_reducible repeat (first | apply Kd.R_alloc | apply Kd.R_drewN | apply Kd.R_drew)); exact HO_3.out⟩, ⟨by repeat (first | (with_reducible first | exact HB.out | apply below_alloc | apply pw_below_drewN | apply below_drew1) | exact HB.out)⟩⟩
      case rest =>
       clear HC5
       try clear p1
       try clear q1
       try clear hx1
       try clear c2
       try clear c2b0
       try clear p2
       try clear c3
       try clear c3b0
       try clear c4
       try clear c4b0
       try clear c6
       try clear c6b0
       try clear c6b1
       try clear c6b2
       try clear hx120_0
       try clear p120
       try clear q120
       obtain ⟨kq, x13_4, rfl, HA, HJ4, HO_3, HB⟩ := hcut
       cases kq with
       | zero => exact absurd HA.out (by simp [impl_PathClean.j1])
       | succ kj4 =>
        have H := HA.out
        clear HA
        simp only [impl_PathClean.j1] at H
        by_cases c7 : x13_4 = true
        ·subst c7
         have H1 : (impl_PathClean.l0 kj4 x3_1 l0 (l0.length : Int) (wrap64 (x8_1 + 1))) = some r := by rw [if_pos rfl] at H; exact H
         clear H
         have H := H1
         clear H1
         have H' := Aside0.mk H
         clear H
         go_wp2
         go_roundg kj4
         case measure => have := HK1.out; have := HJ4.out; omega
         case rel => exact ⟨(x3_1), (wrap64 (x8_1 + 1)), (by first | rfl | (simp; done) | (simp only [i64_w, i32_w]; done) | (simp only [i64_w, i32_w]; rfl) | (simp [*]; done) | (simp [emp_bne, emp_beq]; done)), H', ⟨by have := HK1.out; have := HJ4.out; omega⟩, ⟨by (with_reducible repeat (first | apply Kd.R_alloc | apply Kd.R_drewN | apply Kd.R_drew)); exact HO_3.out⟩, ⟨by repeat (first | (with_reducible first | exact HB.out | apply below_alloc | apply pw_below_drewN | apply below_drew1) | exact HB.out)⟩⟩
        ·replace c7 := Bool.eq_false_iff.mpr c7
         subst c7
         have H1 : (if (rdOf ByteArray.empty l0 x8_1).toList = ([46, 46] : List UInt8) then (if (x3_1.length : Int) > 0 then (if 0 ≤ (wrap64 ((x3_1.length : Int) - 1)) then (if (wrap64 ((x3_1.length : Int) - 1)) ≤ (x3_1.length : Int) then (impl_PathClean.l0 kj4 (x3_1.take ((wrap64 ((x3_1.length : Int) - 1)) : Int).toNat) l0 (l0.length : Int) (wrap64 (x8_1 + 1))) else (none)) else (none)) else (impl_PathClean.l0 kj4 x3_1 l0 (l0.length : Int) (wrap64 (x8_1 + 1)))) else (if x3_1.length < 8796093022208 then (impl_PathClean.l0 kj4 (x3_1 ++ [(rdOf ByteArray.empty l0 x8_1)]) l0 (l0.length : Int) (wrap64 (x8_1 + 1))) else (none))) = some r := by rw [if_neg (show ¬ (false = true) by decide)] at H; exact H
         clear H
         have H := H1
         clear H1
         by_cases c8 : (rdOf ByteArray.empty l0 x8_1).toList = ([46, 46] : List UInt8)
         ·rw [if_pos c8] at H
          have c8b0 : ((rdOf ByteArray.empty l0 x8_1).toList == ([46, 46] : List UInt8)) = true := beq_iff_eq.mpr c8
          have c8b1 : ((rdOf ByteArray.empty l0 x8_1).toList != ([46, 46] : List UInt8)) = false := bne_eq_false_iff_eq.mpr c8
          clear c8
          by_cases c9 : (x3_1.length : Int) > 0
          ·rw [if_pos c9] at H
           have c9b0 : decide (0 < (x3_1.length : Int)) = true := decide_eq_true c9
           have c9b1 : decide (0 < x3_1.length) = true := decide_eq_true (by omega)
           clear c9
           obtain ⟨ji10, hji10⟩ : ∃ j_ : Int, (wrap64 ((x3_1.length : Int) - 1)) = j_ := ⟨_, rfl⟩
           replace H : (if 0 ≤ (ji10) then (if (ji10) ≤ (x3_1.length : Int) then (impl_PathClean.l0 kj4 (x3_1.take ((ji10) : Int).toNat) l0 (l0.length : Int) (wrap64 (x8_1 + 1))) else (none)) else (none)) = some r := by first | (rw [hji10] at H; exact H) | (simp only [hji10] at H ⊢; exact H)
           have hji10w : (IntKind.i64.wrap ((x3_1.length : Int) - 1)) = ji10 := (i64_w _).trans hji10
           by_cases c11 : 0 ≤ (ji10)
           ·rw [if_pos c11] at H
            have c11b0 := eq_true c11
            have c11b1 := decide_eq_true c11
            clear c11
            by_cases c12 : (ji10) ≤ (x3_1.length : Int)
            ·rw [if_pos c12] at H
             have c12b0 := eq_true c12
             have c12b1 := decide_eq_true c12
             clear c12
             obtain ⟨y121, hy121⟩ : ∃ y_ : List ByteArray, y_ = (x3_1.take ((ji10) : Int).toNat) := ⟨_, rfl⟩
             replace H : (impl_PathClean.l0 kj4 y121 l0 (l0.length : Int) (wrap64 (x8_1 + 1))) = some r := by first | (rw [hy121]; with_reducible exact H) | (have H2_ := (Option.bind_some _ _).symm.trans H; rw [hy121]; with_reducible exact H2_) | (have H2_ := (Option.bind_some _ _).symm.trans H; with_reducible exact H2_) | with_reducible exact H | (rw [hy121]; exact H) | exact H
             have Ny121 := Aside0.mk hy121
             clear hy121
             have H' := Aside0.mk H
             clear H
             obtain ⟨Ao13, co13, eo13⟩ := Kd.R_slice HO_3.out
             subst eo13
             have q14 : ((ji10) : Int) ≤ ((x3_1.length : Int) : Int) := of_decide_eq_true (by first | (with_reducible assumption) | assumption)
             obtain ⟨i014, hi014, _, hsz14, _⟩ := info_parts info9
             have hcut14 := cut_to (P := Try.prog) 22 9 .i64 Try.underlying22 hi014 Ao13 x3_1.length co13 (ji10) (of_decide_eq_true (by first | (with_reducible assumption) | assumption)) q14 (Kd.R_reads' HO_3.out).2.1
             have hr14 := Kd.R_take (m := ((ji10) : Int).toNat) HO_3.out (by omega)
             have hy14 : y121.length = ((ji10) : Int).toNat := (by rw [Ny121.out, List.length_take]; omega)
             rw [← Ny121.out] at hr14
             rw [← hy14] at hr14 hcut14
             clear hy14 hi014 hsz14 HO_3
             have HO123 := Aside0.mk hr14
             clear hr14
             replace q14 := eq_true q14
             go_wp2
             go_roundg kj4
             case measure => have := HK1.out; have := HJ4.out; omega
             case rel => exact ⟨(y121), (wrap64 (x8_1 + 1)), (by first | rfl | (simp; done) | (simp only [i64_w, i32_w]; done) | (simp only [i64_w, i32_w]; rfl) | (simp [*]; done) | (simp [emp_bne, emp_beq]; done)), H', ⟨by have := HK1.out; have := HJ4.out; omega⟩, ⟨by (with_reducible repeat (first | apply Kd.R_alloc | apply Kd.R_drewN | apply Kd.R_drew)); exact HO123.out⟩, ⟨by repeat (first | (with_reducible first | exact HB.out | apply below_alloc | apply pw_below_drewN | apply below_drew1) | exact HB.out)⟩⟩
            ·rw [if_neg c12] at H
             exact absurd H (by simp)
           ·rw [if_neg c11] at H
            exact absurd H (by simp)
          ·rw [if_neg c9] at H
           have c9b0 : decide (0 < (x3_1.length : Int)) = false := decide_eq_false c9
           have c9b1 : decide (0 < x3_1.length) = false := decide_eq_false (by omega)
           clear c9
           have H' := Aside0.mk H
           clear H
           obtain ⟨Ao15, co15, eo15⟩ := Kd.R_slice HO_3.out
           subst eo15
           go_wp2
           go_roundg kj4
           case measure => have := HK1.out; have := HJ4.out; omega
           case rel => exact ⟨(x3_1), (wrap64 (x8_1 + 1)), (by first | rfl | (simp; done) | (simp only [i64_w, i32_w]; done) | (simp only [i64_w, i32_w]; rfl) | (simp [*]; done) | (simp [emp_bne, emp_beq]; done)), H', ⟨by have := HK1.out; have := HJ4.out; omega⟩, ⟨by (with_reducible repeat (first | apply Kd.R_alloc | apply Kd.R_drewN | apply Kd.R_drew)); exact HO_3.out⟩, ⟨by repeat (first | (with_reducible first | exact HB.out | apply below_alloc | apply pw_below_drewN | apply below_drew1) | exact HB.out)⟩⟩
         ·rw [if_neg c8] at H
          have c8b0 : ((rdOf ByteArray.empty l0 x8_1).toList == ([46, 46] : List UInt8)) = false := beq_eq_false_iff_ne.mpr c8
          have c8b1 : ((rdOf ByteArray.empty l0 x8_1).toList != ([46, 46] : List UInt8)) = true := bne_iff_ne.mpr c8
          by_cases c16 : x3_1.length < 8796093022208
          ·rw [if_pos c16] at H
           have LMc16 := Aside0.mk c16
           clear c16
           obtain ⟨y124, hy124⟩ : ∃ y_ : List ByteArray, y_ = (x3_1 ++ [(rdOf ByteArray.empty l0 x8_1)]) := ⟨_, rfl⟩
           replace H : (impl_PathClean.l0 kj4 y124 l0 (l0.length : Int) (wrap64 (x8_1 + 1))) = some r := by first | (rw [hy124]; with_reducible exact H) | (have H2_ := (Option.bind_some _ _).symm.trans H; rw [hy124]; with_reducible exact H2_) | (have H2_ := (Option.bind_some _ _).symm.trans H; with_reducible exact H2_) | with_reducible exact H | (rw [hy124]; exact H) | exact H
           have Ny124 := Aside0.mk hy124
           clear hy124
           have H' := Aside0.mk H
           clear H
           go_wp2_with (first | ((with_reducible refine gate_builtin (b := .append) (xs := #[.tmp 26, .tmp 28]) rfl ?_); at_builtin; refine Kd.R_append Kd.string (w0 := w) w.heap.size rfl (.tmp 26) (.tmp 28) 22 9 (.string ⟨#[]⟩) 16 rfl Try.underlying22 info9 rfl (by decide) (by omega) u3 x3_1 (rdOf ByteArray.empty l0 x8_1) [.string (rdOf ByteArray.empty l0 x8_1)] (fun _ => True) (fun _ => False) rfl rfl ?aP (fun _ hk => hk.elim) ?aF ?aO ?aB ?aS ?aL ?_; (case aP => exact rfl); (case aB => exact (by repeat (first | (with_reducible first | exact HB.out | apply below_alloc | apply pw_below_drewN | apply below_drew1) | exact HB.out))); (case aF => exact (fun _ _ => trivial)); (case aO => exact (by (with_reducible repeat (first | apply Kd.R_alloc | apply Kd.R_drewN | apply Kd.R_drew)); exact HO_3.out)); (case aS => exact (below_size (by repeat (first | (with_reducible first | exact HB.out | apply below_alloc | apply pw_below_drewN | apply below_drew1) | exact HB.out)))); (case aL => have := LMc16.out; omega); intro v125 w17 ho hb hg hat; rw [← Ny124.out] at ho; have n0_ := Aside0.mk (hb); have n1_ := Aside0.mk (ho); clear HB; clear HO_3; have HB := n0_; have HO126 := n1_; clear n0_ n1_; clear ho hb hg hat))
           go_roundg kj4
           case measure => have := HK1.out; have := HJ4.out; omega
           case rel => exact ⟨(y124), (wrap64 (x8_1 + 1)), (by first | rfl | (simp; done) | (simp only [i64_w, i32_w]; done) | (simp only [i64_w, i32_w]; rfl) | (simp [*]; done) | (simp [emp_bne, emp_beq]; done)), H', ⟨by have := HK1.out; have := HJ4.out; omega⟩, ⟨by (with_reducible repeat (first | apply Kd.R_alloc | apply Kd.R_drewN | apply Kd.R_drew)); exact HO126.out⟩, ⟨by repeat (first | (with_reducible first | exact HB.out | apply below_alloc | apply pw_below_drewN | apply below_drew1) | exact HB.out)⟩⟩
          ·rw [if_neg c16] at H
           exact absurd H (by simp)
     ·rw [if_neg c4] at H
      exact absurd H (by simp)
    ·rw [if_neg c3] at H
     exact absurd H (by simp)
   ·rw [if_neg c2] at H
    have c2b0 : decide (x8_1 < (l0.length : Int)) = false := decide_eq_false c2
    clear c2
    obtain rfl := Option.some.inj H
    go_wp2
    (try rw [Exit.noGoto_ret])
    go_ret
    exact ⟨_, by first | rfl | (simp <;> rfl) | (simp [*] <;> rfl), by (with_reducible repeat (first | apply Kd.R_alloc | apply Kd.R_drewN | apply Kd.R_drew)); exact HO_3.out, by repeat (first | (with_reducible first | exact HB.out | apply below_alloc | apply pw_below_drewN | apply below_drew1) | exact HB.out)⟩

end Go.Proofs.Ytagahkoafepehaa.P
