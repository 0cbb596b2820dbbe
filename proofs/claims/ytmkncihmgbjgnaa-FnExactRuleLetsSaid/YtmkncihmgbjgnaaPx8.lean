-- Written by a program of this session (patch_print.py over the kit's print; given texts in wip/given).
import Derived.Test.YtmkncihmgbjgnaaPx0
import Derived.Test.YtmkncihmgbjgnaaPx6
import Derived.Test.YtmkncihmgbjgnaaPx7
namespace Go.Proofs.Ytmkncihmgbjgnaa.P
open Go.RowKit Go.Proofs.YtmkncihmgbjgnaaW.PrintWords Go.Proofs.YtmkncihmgbjgnaaW.PrintLast Go.Proofs.YtmkncihmgbjgnaaW.PrintMore
attribute [local go_sem] max2_int min2_int max_two min_two max_three min_three max_four min_four   -- for this text's walks alone
set_option linter.unusedVariables false
set_option linter.unusedSimpArgs false
set_option maxHeartbeats 8000000
set_option maxRecDepth 100000

/-! ### spec_AddrOk: function 51 -/
mutual
def spec_AddrOk.j0 : Nat → Bool → ByteArray → List ByteArray → Bool → ByteArray → Option (Bool)
 | 0, _, _, _, _, _ => none
 | k + 1, x29, x223000, x223001, x223002, x223003 => if x29 = true then (some false) else (spec_AddrOk.l0 k 0 x223000 x223001 x223002 x223003)
def spec_AddrOk.l0 : Nat → Int → ByteArray → List ByteArray → Bool → ByteArray → Option (Bool)
 | 0, _, _, _, _, _ => none
 | k + 1, x3, x223000, x223001, x223002, x223003 => if x3 < (x223001.length : Int) then (if 0 ≤ x3 then ((spec_l1Norm.f k (rdOf ByteArray.empty x223001 x3)).bind fun t226 => (if t226 = true then (if (rdOf ByteArray.empty x223001 x3).toList = ([] : List UInt8) then (some false) else (if (rdOf ByteArray.empty x223001 x3).toList = ([46] : List UInt8) then (some false) else (if (rdOf ByteArray.empty x223001 x3).toList = ([46, 46] : List UInt8) then (some false) else (spec_AddrOk.l0 k (wrap64 (x3 + 1)) x223000 x223001 x223002 x223003)))) else (some false))) else (none)) else ((spec_l1Text.f k x223000 x223001 x223002 x223003).bind fun t230 => (some (decide ((t230.size : Int) ≤ 60))))
end
def spec_AddrOk.f (k : Nat) (a0_0 : ByteArray) (l0_1 : List ByteArray) (a0_2 : Bool) (a0_3 : ByteArray) : Option (Bool) := (spec_l1House.f k a0_0).bind fun t223 => (if t223 = true then (if (l0_1.length : Int) > 5 then (spec_AddrOk.j0 k true a0_0 l0_1 a0_2 a0_3) else ((spec_l1Norm.f k a0_3).bind fun t224 => (if t224 = true then (if a0_2 = true then (spec_AddrOk.j0 k false a0_0 l0_1 a0_2 a0_3) else (spec_AddrOk.j0 k (a0_3.toList != ([] : List UInt8)) a0_0 l0_1 a0_2 a0_3)) else (spec_AddrOk.j0 k true a0_0 l0_1 a0_2 a0_3)))) else (spec_AddrOk.j0 k true a0_0 l0_1 a0_2 a0_3))
theorem spec_AddrOk.mono_l : ∀ k, (∀ y0 y1 y2 y3 y4, LeO (spec_AddrOk.j0 k y0 y1 y2 y3 y4) (spec_AddrOk.j0 (k + 1) y0 y1 y2 y3 y4)) ∧ (∀ y0 y1 y2 y3 y4, LeO (spec_AddrOk.l0 k y0 y1 y2 y3 y4) (spec_AddrOk.l0 (k + 1) y0 y1 y2 y3 y4))
 | 0 => ⟨fun _ _ _ _ _ r h => by simp [spec_AddrOk.j0] at h, fun _ _ _ _ _ r h => by simp [spec_AddrOk.l0] at h⟩
 | k + 1 => by
  obtain ⟨ih0, ih1⟩ := spec_AddrOk.mono_l k
  refine ⟨?_, ?_⟩
  ·intro y0 y1 y2 y3 y4
   unfold spec_AddrOk.j0
   repeat' first
   | (with_reducible exact ih0 _ _ _ _ _)
   | (with_reducible exact ih1 _ _ _ _ _)
   | (with_reducible exact spec_l1House.mono _ _)
   | (with_reducible exact spec_l1Norm.mono _ _)
   | (with_reducible exact spec_l1Text.mono _ _ _ _ _)
   | (with_reducible exact LeO.refl _)
   | (with_reducible exact LeO.none _)
   | (with_reducible refine LeO.ite ?_ ?_)
   | (with_reducible refine LeO.bind ?_ (fun _ => ?_))
   | exact ih0 _ _ _ _ _
   | exact ih1 _ _ _ _ _
   | exact spec_l1House.mono _ _
   | exact spec_l1Norm.mono _ _
   | exact spec_l1Text.mono _ _ _ _ _
   | exact LeO.none _
   | refine LeO.ite ?_ ?_
   | refine LeO.bind ?_ (fun _ => ?_)
  ·intro y0 y1 y2 y3 y4
   unfold spec_AddrOk.l0
   repeat' first
   | (with_reducible exact ih0 _ _ _ _ _)
   | (with_reducible exact ih1 _ _ _ _ _)
   | (with_reducible exact spec_l1House.mono _ _)
   | (with_reducible exact spec_l1Norm.mono _ _)
   | (with_reducible exact spec_l1Text.mono _ _ _ _ _)
   | (with_reducible exact LeO.refl _)
   | (with_reducible exact LeO.none _)
   | (with_reducible refine LeO.ite ?_ ?_)
   | (with_reducible refine LeO.bind ?_ (fun _ => ?_))
   | exact ih0 _ _ _ _ _
   | exact ih1 _ _ _ _ _
   | exact spec_l1House.mono _ _
   | exact spec_l1Norm.mono _ _
   | exact spec_l1Text.mono _ _ _ _ _
   | exact LeO.none _
   | refine LeO.ite ?_ ?_
   | refine LeO.bind ?_ (fun _ => ?_)
theorem spec_AddrOk.mono : ∀ a0 a1 a2 a3 k, LeO (spec_AddrOk.f k a0 a1 a2 a3) (spec_AddrOk.f (k + 1) a0 a1 a2 a3) := by
 intro a0 a1 a2 a3 k
 obtain ⟨ih0, ih1⟩ := spec_AddrOk.mono_l k
 unfold spec_AddrOk.f
 repeat' first
   | (with_reducible exact ih0 _ _ _ _ _)
   | (with_reducible exact ih1 _ _ _ _ _)
   | (with_reducible exact spec_l1House.mono _ _)
   | (with_reducible exact spec_l1Norm.mono _ _)
   | (with_reducible exact spec_l1Text.mono _ _ _ _ _)
   | (with_reducible exact LeO.refl _)
   | (with_reducible exact LeO.none _)
   | (with_reducible refine LeO.ite ?_ ?_)
   | (with_reducible refine LeO.bind ?_ (fun _ => ?_))
   | exact ih0 _ _ _ _ _
   | exact ih1 _ _ _ _ _
   | exact spec_l1House.mono _ _
   | exact spec_l1Norm.mono _ _
   | exact spec_l1Text.mono _ _ _ _ _
   | exact LeO.none _
   | refine LeO.ite ?_ ?_
   | refine LeO.bind ?_ (fun _ => ?_)
theorem spec_AddrOk.calls (k : Nat) (a0_0 : ByteArray) (A0_1 : Option Addr) (c0_1 : Nat) (l0_1 : List ByteArray) (a0_2 : Bool) (a0_3 : ByteArray) (r : Bool) (w : World) (hr0_1 : Kd.C Kd.string w A0_1 l0_1.length l0_1) (hc0_1 : l0_1.length ≤ c0_1) (h : spec_AddrOk.f k a0_0 l0_1 a0_2 a0_3 = some r) :
  Calls Try.prog 51 #[.agg #[.string a0_0, .slice A0_1 l0_1.length c0_1, .bool a0_2, .string a0_3]] w fun e w' => e = .returned (.bool r) ∧ Below w.heap.size w w' := by
 have hu53 := Try.underlying53
 have HR0_1 := Aside0.mk hr0_1
 have HC0_1 := Aside0.mk hc0_1
 clear hr0_1 hc0_1
 have HB := Aside0.mk (Below.refl w.heap.size w)
 have H : ((spec_l1House.f k a0_0).bind fun t223 => (if t223 = true then (if (l0_1.length : Int) > 5 then (spec_AddrOk.j0 k true a0_0 l0_1 a0_2 a0_3) else ((spec_l1Norm.f k a0_3).bind fun t224 => (if t224 = true then (if a0_2 = true then (spec_AddrOk.j0 k false a0_0 l0_1 a0_2 a0_3) else (spec_AddrOk.j0 k (a0_3.toList != ([] : List UInt8)) a0_0 l0_1 a0_2 a0_3)) else (spec_AddrOk.j0 k true a0_0 l0_1 a0_2 a0_3)))) else (spec_AddrOk.j0 k true a0_0 l0_1 a0_2 a0_3))) = some r := h
 clear h
 have HC2 := Aside0.mk H
 clear H
 go_enter Try.func51, Try.ntmps51
 go_upto_region 1 with (first | ((with_reducible refine gate_dst (N := 1) rfl ?_); (try (refine gate_guard (by rfl) ?_; dsimp only)); refine box_event ?hg (N := 1) ?hd (cs := #[.string a0_0, .slice A0_1 l0_1.length c0_1, .bool a0_2, .string a0_3]) (t := 53) ?hr ?_; (case hd => rfl); (case hg => rfl); (case hr => first | (go_simp; done) | (go_simp; rfl)); intro gb222 hg w3 hbox hb; have n0_ := Aside0.mk (below_step (by repeat (first | (with_reducible first | exact HB.out | apply below_alloc | apply pw_below_drewN | apply below_drew1) | exact HB.out)) hb); have n1_ := Aside0.mk (hbox); have n2_ := Aside0.mk ((by rw [hg]; exact (below_size (by repeat (first | (with_reducible first | exact HB.out | apply below_alloc | apply pw_below_drewN | apply below_drew1) | exact HB.out))) : w.heap.size ≤ gb222)); have n3_ := n2_; clear HB; have HB := n0_; have BK222 := n1_; have GW222 := n2_; have GE222 := n3_; clear n0_ n1_ n2_ n3_; clear hb hbox hg))
 (try simp only [Act.put, List.setIfInBounds_toArray, List.set_cons_zero, List.set_cons_succ])
 go_cut [29] (fun v29 wc => ∃ (kq : Nat) (x29_1 : Bool), v29 = .bool x29_1 ∧ Aside0 (spec_AddrOk.j0 kq x29_1 a0_0 l0_1 a0_2 a0_3 = some r) ∧ Aside0 (kq ≤ k) ∧ Aside0 (wc.heap[gb222]? = some (.cells #[.string a0_0, (.slice A0_1 l0_1.length c0_1), .bool a0_2, .string a0_3] 53 (0, 0))) ∧ Aside0 (Below w.heap.size w wc))
 case first =>
  have H := HC2.out
  clear HC2
  replace H := Option.bind_eq_some_iff.mp H
  obtain ⟨t223, A40, H⟩ := H
  replace H : (if t223 = true then (if (l0_1.length : Int) > 5 then (spec_AddrOk.j0 k true a0_0 l0_1 a0_2 a0_3) else ((spec_l1Norm.f k a0_3).bind fun t224 => (if t224 = true then (if a0_2 = true then (spec_AddrOk.j0 k false a0_0 l0_1 a0_2 a0_3) else (spec_AddrOk.j0 k (a0_3.toList != ([] : List UInt8)) a0_0 l0_1 a0_2 a0_3)) else (spec_AddrOk.j0 k true a0_0 l0_1 a0_2 a0_3)))) else (spec_AddrOk.j0 k true a0_0 l0_1 a0_2 a0_3)) = some r := H
  have A4 := Aside0.mk A40
  clear A40
  by_cases c5 : t223 = true
  ·subst c5
   have H1 : (if (l0_1.length : Int) > 5 then (spec_AddrOk.j0 k true a0_0 l0_1 a0_2 a0_3) else ((spec_l1Norm.f k a0_3).bind fun t224 => (if t224 = true then (if a0_2 = true then (spec_AddrOk.j0 k false a0_0 l0_1 a0_2 a0_3) else (spec_AddrOk.j0 k (a0_3.toList != ([] : List UInt8)) a0_0 l0_1 a0_2 a0_3)) else (spec_AddrOk.j0 k true a0_0 l0_1 a0_2 a0_3)))) = some r := by rw [if_pos rfl] at H; exact H
   clear H
   have H := H1
   clear H1
   by_cases c6 : (l0_1.length : Int) > 5
   ·rw [if_pos c6] at H
    have c6b0 : decide (5 < (l0_1.length : Int)) = true := decide_eq_true c6
    have c6b1 : decide (5 < l0_1.length) = true := decide_eq_true (by omega)
    clear c6
    (first | rw [c6b0] | (simp only [i64_w, i32_w]; rw [c6b0]) | skip)
    have H' := Aside0.mk H
    clear H
    have hcz7_0 : w3.cell? ⟨gb222, 0, none⟩ = some (.string a0_0) := (blk_cell BK222.out 0).trans rfl
    have hcz7_1 : w3.cell? ⟨gb222, 1, none⟩ = some (.slice A0_1 l0_1.length c0_1) := (blk_cell BK222.out 1).trans rfl
    have hcz7_2 : w3.cell? ⟨gb222, 2, none⟩ = some (.bool a0_2) := (blk_cell BK222.out 2).trans rfl
    have hcz7_3 : w3.cell? ⟨gb222, 3, none⟩ = some (.string a0_3) := (blk_cell BK222.out 3).trans rfl
    have hfz7_0 := blk_frozen BK222.out 0
    have hfz7_1 := blk_frozen BK222.out 1
    have hfz7_2 := blk_frozen BK222.out 2
    have hfz7_3 := blk_frozen BK222.out 3
    go_wp2_with (first | ((with_reducible refine gate_callee (f := 59) rfl ?_); refine goesL_ (some 6) rfl rfl Try.func59 (by kernel_rfl) rfl #[.string a0_0] rfl (by (try simp only [List.map_toArray, List.map_cons, List.map_nil]); first | done | rfl | (simp only [List.length_drop, List.length_take]; rfl)) ?_; (with_reducible refine (spec_l1House.calls k a0_0 true _ A4.out).mono ?_); rintro e w' ⟨rfl, ⟨nd, rfl⟩⟩; refine ⟨_, rfl, ?_⟩))
    go_meet
    case rel => exact ⟨_, (true), (by first | rfl | (simp; done) | (simp only [i64_w, i32_w]; done) | (simp only [i64_w, i32_w]; rfl) | (simp [*]; done) | (simp [emp_bne, emp_beq]; done)), H', ⟨by first | omega | exact Nat.le_refl _⟩, ⟨by (with_reducible repeat (first | refine blk_drewN ?_ _ | refine blk_drew ?_ | refine blk_alloc ?_ _)); exact BK222.out⟩, ⟨by repeat (first | (with_reducible first | exact HB.out | apply below_alloc | apply pw_below_drewN | apply below_drew1 | refine below_set ?_ GE222.out) | exact HB.out)⟩⟩
   ·rw [if_neg c6] at H
    have c6b0 : decide (5 < (l0_1.length : Int)) = false := decide_eq_false c6
    have c6b1 : decide (5 < l0_1.length) = false := decide_eq_false (by omega)
    clear c6
    (first | rw [c6b0] | (simp only [i64_w, i32_w]; rw [c6b0]) | skip)
    replace H := Option.bind_eq_some_iff.mp H
    obtain ⟨t224, A80, H⟩ := H
    replace H : (if t224 = true then (if a0_2 = true then (spec_AddrOk.j0 k false a0_0 l0_1 a0_2 a0_3) else (spec_AddrOk.j0 k (a0_3.toList != ([] : List UInt8)) a0_0 l0_1 a0_2 a0_3)) else (spec_AddrOk.j0 k true a0_0 l0_1 a0_2 a0_3)) = some r := H
    have A8 := Aside0.mk A80
    clear A80
    by_cases c9 : t224 = true
    ·subst c9
     have H1 : (if a0_2 = true then (spec_AddrOk.j0 k false a0_0 l0_1 a0_2 a0_3) else (spec_AddrOk.j0 k (a0_3.toList != ([] : List UInt8)) a0_0 l0_1 a0_2 a0_3)) = some r := by rw [if_pos rfl] at H; exact H
     clear H
     have H := H1
     clear H1
     by_cases c10 : a0_2 = true
     ·subst c10
      have H1 : (spec_AddrOk.j0 k false a0_0 l0_1 true a0_3) = some r := by rw [if_pos rfl] at H; exact H
      clear H
      have H := H1
      clear H1
      have H' := Aside0.mk H
      clear H
      have hcz11_0 : w3.cell? ⟨gb222, 0, none⟩ = some (.string a0_0) := (blk_cell BK222.out 0).trans rfl
      have hcz11_1 : w3.cell? ⟨gb222, 1, none⟩ = some (.slice A0_1 l0_1.length c0_1) := (blk_cell BK222.out 1).trans rfl
      have hcz11_2 : w3.cell? ⟨gb222, 2, none⟩ = some (.bool true) := (blk_cell BK222.out 2).trans rfl
      have hcz11_3 : w3.cell? ⟨gb222, 3, none⟩ = some (.string a0_3) := (blk_cell BK222.out 3).trans rfl
      have hfz11_0 := blk_frozen BK222.out 0
      have hfz11_1 := blk_frozen BK222.out 1
      have hfz11_2 := blk_frozen BK222.out 2
      have hfz11_3 := blk_frozen BK222.out 3
      go_wp2_with (first | ((with_reducible refine gate_callee (f := 59) rfl ?_); refine goesL_ (some 6) rfl rfl Try.func59 (by kernel_rfl) rfl #[.string a0_0] rfl (by (try simp only [List.map_toArray, List.map_cons, List.map_nil]); first | done | rfl | (simp only [List.length_drop, List.length_take]; rfl)) ?_; (with_reducible refine (spec_l1House.calls k a0_0 true _ A4.out).mono ?_); rintro e w' ⟨rfl, ⟨nd, rfl⟩⟩; refine ⟨_, rfl, ?_⟩) | (go_at_call 60; (with_reducible refine (spec_l1Norm.calls k a0_3 true _ A8.out).mono ?_); rintro e w12 ⟨rfl, hb⟩; have n0_ := Aside0.mk (blk_below (g := gb222) (o := .cells #[.string a0_0, .slice A0_1 l0_1.length c0_1, .bool true, .string a0_3] 53 (0, 0)) (by (with_reducible repeat (first | refine blk_drewN ?_ _ | refine blk_drew ?_ | refine blk_alloc ?_ _)); exact BK222.out) hb); have n1_ := Aside0.mk (below_step (by repeat (first | (with_reducible first | exact HB.out | apply below_alloc | apply pw_below_drewN | apply below_drew1 | refine below_set ?_ GE222.out) | exact HB.out)) hb); clear BK222; clear HB; have BK222 := n0_; have HB := n1_; clear n0_ n1_; (try clear hb); (try clear hb2); (try clear hk); (try clear hi); have hcz13_0 : w12.cell? ⟨gb222, 0, none⟩ = some (.string a0_0) := (blk_cell BK222.out 0).trans rfl; have hcz13_1 : w12.cell? ⟨gb222, 1, none⟩ = some (.slice A0_1 l0_1.length c0_1) := (blk_cell BK222.out 1).trans rfl; have hcz13_2 : w12.cell? ⟨gb222, 2, none⟩ = some (.bool true) := (blk_cell BK222.out 2).trans rfl; have hcz13_3 : w12.cell? ⟨gb222, 3, none⟩ = some (.string a0_3) := (blk_cell BK222.out 3).trans rfl; have hfz13_0 := blk_frozen BK222.out 0; have hfz13_1 := blk_frozen BK222.out 1; have hfz13_2 := blk_frozen BK222.out 2; have hfz13_3 := blk_frozen BK222.out 3))
      go_meet
      case rel => exact ⟨_, (false), (by first | rfl | (simp; done) | (simp only [i64_w, i32_w]; done) | (simp only [i64_w, i32_w]; rfl) | (simp [*]; done) | (simp [emp_bne, emp_beq]; done)), H', ⟨by first | omega | exact Nat.le_refl _⟩, ⟨by (with_reducible repeat (first | refine blk_drewN ?_ _ | refine blk_drew ?_ | refine blk_alloc ?_ _)); exact BK222.out⟩, ⟨by repeat (first | (with_reducible first | exact HB.out | apply below_alloc | apply pw_below_drewN | apply below_drew1 | refine below_set ?_ GE222.out) | exact HB.out)⟩⟩
     ·replace c10 := Bool.eq_false_iff.mpr c10
      subst c10
      have H1 : (spec_AddrOk.j0 k (a0_3.toList != ([] : List UInt8)) a0_0 l0_1 false a0_3) = some r := by rw [if_neg (show ¬ (false = true) by decide)] at H; exact H
      clear H
      have H := H1
      clear H1
      have H' := Aside0.mk H
      clear H
      have hcz14_0 : w3.cell? ⟨gb222, 0, none⟩ = some (.string a0_0) := (blk_cell BK222.out 0).trans rfl
      have hcz14_1 : w3.cell? ⟨gb222, 1, none⟩ = some (.slice A0_1 l0_1.length c0_1) := (blk_cell BK222.out 1).trans rfl
      have hcz14_2 : w3.cell? ⟨gb222, 2, none⟩ = some (.bool false) := (blk_cell BK222.out 2).trans rfl
      have hcz14_3 : w3.cell? ⟨gb222, 3, none⟩ = some (.string a0_3) := (blk_cell BK222.out 3).trans rfl
      have hfz14_0 := blk_frozen BK222.out 0
      have hfz14_1 := blk_frozen BK222.out 1
      have hfz14_2 := blk_frozen BK222.out 2
      have hfz14_3 := blk_frozen BK222.out 3
      go_wp2_with (first | ((with_reducible refine gate_callee (f := 59) rfl ?_); refine goesL_ (some 6) rfl rfl Try.func59 (by kernel_rfl) rfl #[.string a0_0] rfl (by (try simp only [List.map_toArray, List.map_cons, List.map_nil]); first | done | rfl | (simp only [List.length_drop, List.length_take]; rfl)) ?_; (with_reducible refine (spec_l1House.calls k a0_0 true _ A4.out).mono ?_); rintro e w' ⟨rfl, ⟨nd, rfl⟩⟩; refine ⟨_, rfl, ?_⟩) | (go_at_call 60; (with_reducible refine (spec_l1Norm.calls k a0_3 true _ A8.out).mono ?_); rintro e w15 ⟨rfl, hb⟩; have n0_ := Aside0.mk (blk_below (g := gb222) (o := .cells #[.string a0_0, .slice A0_1 l0_1.length c0_1, .bool false, .string a0_3] 53 (0, 0)) (by (with_reducible repeat (first | refine blk_drewN ?_ _ | refine blk_drew ?_ | refine blk_alloc ?_ _)); exact BK222.out) hb); have n1_ := Aside0.mk (below_step (by repeat (first | (with_reducible first | exact HB.out | apply below_alloc | apply pw_below_drewN | apply below_drew1 | refine below_set ?_ GE222.out) | exact HB.out)) hb); clear BK222; clear HB; have BK222 := n0_; have HB := n1_; clear n0_ n1_; (try clear hb); (try clear hb2); (try clear hk); (try clear hi); have hcz16_0 : w15.cell? ⟨gb222, 0, none⟩ = some (.string a0_0) := (blk_cell BK222.out 0).trans rfl; have hcz16_1 : w15.cell? ⟨gb222, 1, none⟩ = some (.slice A0_1 l0_1.length c0_1) := (blk_cell BK222.out 1).trans rfl; have hcz16_2 : w15.cell? ⟨gb222, 2, none⟩ = some (.bool false) := (blk_cell BK222.out 2).trans rfl; have hcz16_3 : w15.cell? ⟨gb222, 3, none⟩ = some (.string a0_3) := (blk_cell BK222.out 3).trans rfl; have hfz16_0 := blk_frozen BK222.out 0; have hfz16_1 := blk_frozen BK222.out 1; have hfz16_2 := blk_frozen BK222.out 2; have hfz16_3 := blk_frozen BK222.out 3))
      go_meet
      case rel => exact ⟨_, ((a0_3.toList != ([] : List UInt8))), (by first | rfl | (simp; done) | (simp only [i64_w, i32_w]; done) | (simp only [i64_w, i32_w]; rfl) | (simp [*]; done) | (simp [emp_bne, emp_beq]; done)), H', ⟨by first | omega | exact Nat.le_refl _⟩, ⟨by (with_reducible repeat (first | refine blk_drewN ?_ _ | refine blk_drew ?_ | refine blk_alloc ?_ _)); exact BK222.out⟩, ⟨by repeat (first | (with_reducible first | exact HB.out | apply below_alloc | apply pw_below_drewN | apply below_drew1 | refine below_set ?_ GE222.out) | exact HB.out)⟩⟩
    ·replace c9 := Bool.eq_false_iff.mpr c9
     subst c9
     have H1 : (spec_AddrOk.j0 k true a0_0 l0_1 a0_2 a0_3) = some r := by rw [if_neg (show ¬ (false = true) by decide)] at H; exact H
     clear H
     have H := H1
     clear H1
     have H' := Aside0.mk H
     clear H
     have hcz17_0 : w3.cell? ⟨gb222, 0, none⟩ = some (.string a0_0) := (blk_cell BK222.out 0).trans rfl
     have hcz17_1 : w3.cell? ⟨gb222, 1, none⟩ = some (.slice A0_1 l0_1.length c0_1) := (blk_cell BK222.out 1).trans rfl
     have hcz17_2 : w3.cell? ⟨gb222, 2, none⟩ = some (.bool a0_2) := (blk_cell BK222.out 2).trans rfl
     have hcz17_3 : w3.cell? ⟨gb222, 3, none⟩ = some (.string a0_3) := (blk_cell BK222.out 3).trans rfl
     have hfz17_0 := blk_frozen BK222.out 0
     have hfz17_1 := blk_frozen BK222.out 1
     have hfz17_2 := blk_frozen BK222.out 2
     have hfz17_3 := blk_frozen BK222.out 3
     go_wp2_with (first | ((with_reducible refine gate_callee (f := 59) rfl ?_); refine goesL_ (some 6) rfl rfl Try.func59 (by kernel_rfl) rfl #[.string a0_0] rfl (by (try simp only [List.map_toArray, List.map_cons, List.map_nil]); first | done | rfl | (simp only [List.length_drop, List.length_take]; rfl)) ?_; (with_reducible refine (spec_l1House.calls k a0_0 true _ A4.out).mono ?_); rintro e w' ⟨rfl, ⟨nd, rfl⟩⟩; refine ⟨_, rfl, ?_⟩) | (go_at_call 60; (with_reducible refine (spec_l1Norm.calls k a0_3 false _ A8.out).mono ?_); rintro e w18 ⟨rfl, hb⟩; have n0_ := Aside0.mk (blk_below (g := gb222) (o := .cells #[.string a0_0, .slice A0_1 l0_1.length c0_1, .bool a0_2, .string a0_3] 53 (0, 0)) (by (with_reducible repeat (first | refine blk_drewN ?_ _ | refine blk_drew ?_ | refine blk_alloc ?_ _)); exact BK222.out) hb); have n1_ := Aside0.mk (below_step (by repeat (first | (with_reducible first | exact HB.out | apply below_alloc | apply pw_below_drewN | apply below_drew1 | refine below_set ?_ GE222.out) | exact HB.out)) hb); clear BK222; clear HB; have BK222 := n0_; have HB := n1_; clear n0_ n1_; (try clear hb); (try clear hb2); (try clear hk); (try clear hi)))
     go_meet
     case rel => exact ⟨_, (true), (by first | rfl | (simp; done) | (simp only [i64_w, i32_w]; done) | (simp only [i64_w, i32_w]; rfl) | (simp [*]; done) | (simp [emp_bne, emp_beq]; done)), H', ⟨by first | omega | exact Nat.le_refl _⟩, ⟨by (with_reducible repeat (first | refine blk_drewN ?_ _ | refine blk_drew ?_ | refine blk_alloc ?_ _)); exact BK222.out⟩, ⟨by repeat (first | (with_reducible first | exact HB.out | apply below_alloc | apply pw_below_drewN | apply below_drew1 | refine below_set ?_ GE222.out) | exact HB.out)⟩⟩
  ·replace c5 := Bool.eq_false_iff.mpr c5
   subst c5
   have H1 : (spec_AddrOk.j0 k true a0_0 l0_1 a0_2 a0_3) = some r := by rw [if_neg (show ¬ (false = true) by decide)] at H; exact H
   clear H
   have H := H1
   clear H1
   have H' := Aside0.mk H
   clear H
   have hcz19_0 : w3.cell? ⟨gb222, 0, none⟩ = some (.string a0_0) := (blk_cell BK222.out 0).trans rfl
   have hcz19_1 : w3.cell? ⟨gb222, 1, none⟩ = some (.slice A0_1 l0_1.length c0_1) := (blk_cell BK222.out 1).trans rfl
   have hcz19_2 : w3.cell? ⟨gb222, 2, none⟩ = some (.bool a0_2) := (blk_cell BK222.out 2).trans rfl
   have hcz19_3 : w3.cell? ⟨gb222, 3, none⟩ = some (.string a0_3) := (blk_cell BK222.out 3).trans rfl
   have hfz19_0 := blk_frozen BK222.out 0
   have hfz19_1 := blk_frozen BK222.out 1
   have hfz19_2 := blk_frozen BK222.out 2
   have hfz19_3 := blk_frozen BK222.out 3
   go_wp2_with (first | ((with_reducible refine gate_callee (f := 59) rfl ?_); refine goesL_ (some 6) rfl rfl Try.func59 (by kernel_rfl) rfl #[.string a0_0] rfl (by (try simp only [List.map_toArray, List.map_cons, List.map_nil]); first | done | rfl | (simp only [List.length_drop, List.length_take]; rfl)) ?_; (with_reducible refine (spec_l1House.calls k a0_0 false _ A4.out).mono ?_); rintro e w' ⟨rfl, ⟨nd, rfl⟩⟩; refine ⟨_, rfl, ?_⟩))
   go_meet
   case rel => exact ⟨_, (true), (by first | rfl | (simp; done) | (simp only [i64_w, i32_w]; done) | (simp only [i64_w, i32_w]; rfl) | (simp [*]; done) | (simp [emp_bne, emp_beq]; done)), H', ⟨by first | omega | exact Nat.le_refl _⟩, ⟨by (with_reducible repeat (first | refine blk_drewN ?_ _ | refine blk_drew ?_ | refine blk_alloc ?_ _)); exact BK222.out⟩, ⟨by repeat (first | (with_reducible first | exact HB.out | apply below_alloc | apply pw_below_drewN | apply below_drew1 | refine below_set ?_ GE222.out) | exact HB.out)⟩⟩
 case rest =>
  clear HC2
  try clear c1
  try clear p2
  try clear c5
  try clear c6
  try clear c6b0
  try clear c6b1
  try clear c9
  try clear c10
  try clear hcz11_0
  try clear hcz11_1
  try clear hcz11_2
  try clear hcz11_3
  try clear hcz13_0
  try clear hcz13_1
  try clear hcz13_2
  try clear hcz13_3
  try clear hcz14_0
  try clear hcz14_1
  try clear hcz14_2
  try clear hcz14_3
  try clear hcz16_0
  try clear hcz16_1
  try clear hcz16_2
  try clear hcz16_3
  try clear hcz17_0
  try clear hcz17_1
  try clear hcz17_2
  try clear hcz17_3
  try clear hcz19_0
  try clear hcz19_1
  try clear hcz19_2
  try clear hcz19_3
  try clear hcz7_0
  try clear hcz7_1
  try clear hcz7_2
  try clear hcz7_3
  try clear hfz11_0
  try clear hfz11_1
  try clear hfz11_2
  try clear hfz11_3
  try clear hfz13_0
  try clear hfz13_1
  try clear hfz13_2
  try clear hfz13_3
  try clear hfz14_0
  try clear hfz14_1
  try clear hfz14_2
  try clear hfz14_3
  try clear hfz16_0
  try clear hfz16_1
  try clear hfz16_2
  try clear hfz16_3
  try clear hfz17_0
  try clear hfz17_1
  try clear hfz17_2
  try clear hfz17_3
  try clear hfz19_0
  try clear hfz19_1
  try clear hfz19_2
  try clear hfz19_3
  try clear hfz7_0
  try clear hfz7_1
  try clear hfz7_2
  try clear hfz7_3
  obtain ⟨kq, x29_1, rfl, HA, HJ1, BK222, HB⟩ := hcut
  cases kq with
  | zero => exact absurd HA.out (by simp [spec_AddrOk.j0])
  | succ kj1 =>
   have H := HA.out
   clear HA
   simp only [spec_AddrOk.j0] at H
   by_cases c20 : x29_1 = true
   ·subst c20
    have H1 : (some false) = some r := by rw [if_pos rfl] at H; exact H
    clear H
    have H := H1
    clear H1
    obtain rfl := Option.some.inj H
    go_wp2
    go_ret
    exact ⟨by first | rfl | (simp <;> rfl) | (simp [*] <;> rfl), by repeat (first | (with_reducible first | exact HB.out | apply below_alloc | apply pw_below_drewN | apply below_drew1 | refine below_set ?_ GE222.out) | exact HB.out)⟩
   ·replace c20 := Bool.eq_false_iff.mpr c20
    subst c20
    have H1 : (spec_AddrOk.l0 kj1 0 a0_0 l0_1 a0_2 a0_3) = some r := by rw [if_neg (show ¬ (false = true) by decide)] at H; exact H
    clear H
    have H := H1
    clear H1
    have H' := Aside0.mk H
    clear H
    go_wp2
    go_loopg [3] kj1 (fun kq v3 w' => ∃ (x3_2 : Int), v3 = .int .i64 x3_2 ∧ Aside0 (spec_AddrOk.l0 kq x3_2 a0_0 l0_1 a0_2 a0_3 = some r) ∧ Aside0 (kq ≤ kj1) ∧ Aside0 (w'.heap[gb222]? = some (.cells #[.string a0_0, (.slice A0_1 l0_1.length c0_1), .bool a0_2, .string a0_3] 53 (0, 0))) ∧ Aside0 (Below w.heap.size w w'))
    case atStart => exact ⟨(0), (by first | rfl | (simp; done) | (simp only [i64_w, i32_w]; done) | (simp only [i64_w, i32_w]; rfl) | (simp [*]; done) | (simp [emp_bne, emp_beq]; done)), H', ⟨Nat.le_refl _⟩, ⟨by (with_reducible repeat (first | refine blk_drewN ?_ _ | refine blk_drew ?_ | refine blk_alloc ?_ _)); exact BK222.out⟩, ⟨by repeat (first | (with_reducible first | exact HB.out | apply below_alloc | apply pw_below_drewN | apply below_drew1 | refine below_set ?_ GE222.out) | exact HB.out)⟩⟩
    case round =>
     clear H'
     try clear c1
     try clear c2
     try clear p2
     try clear c5
     try clear c6
     try clear c6b0
     try clear c6b1
     try clear c9
     try clear c10
     try clear c20
     try clear hcz11_0
     try clear hcz11_1
     try clear hcz11_2
     try clear hcz11_3
     try clear hcz13_0
     try clear hcz13_1
     try clear hcz13_2
     try clear hcz13_3
     try clear hcz14_0
     try clear hcz14_1
     try clear hcz14_2
     try clear hcz14_3
     try clear hcz16_0
     try clear hcz16_1
     try clear hcz16_2
     try clear hcz16_3
     try clear hcz17_0
     try clear hcz17_1
     try clear hcz17_2
     try clear hcz17_3
     try clear hcz19_0
     try clear hcz19_1
     try clear hcz19_2
     try clear hcz19_3
     try clear hcz7_0
     try clear hcz7_1
     try clear hcz7_2
     try clear hcz7_3
     try clear hfz11_0
     try clear hfz11_1
     try clear hfz11_2
     try clear hfz11_3
     try clear hfz13_0
     try clear hfz13_1
     try clear hfz13_2
     try clear hfz13_3
     try clear hfz14_0
     try clear hfz14_1
     try clear hfz14_2
     try clear hfz14_3
     try clear hfz16_0
     try clear hfz16_1
     try clear hfz16_2
     try clear hfz16_3
     try clear hfz17_0
     try clear hfz17_1
     try clear hfz17_2
     try clear hfz17_3
     try clear hfz19_0
     try clear hfz19_1
     try clear hfz19_2
     try clear hfz19_3
     try clear hfz7_0
     try clear hfz7_1
     try clear hfz7_2
     try clear hfz7_3
     try clear p2
     obtain ⟨x3_2, rfl, HA, HK2, BK222, HB⟩ := hrel
     cases gk with
     | zero => exact absurd HA.out (by simp [spec_AddrOk.l0])
     | succ k2 =>
      have H := HA.out
      clear HA
      simp only [spec_AddrOk.l0] at H
      by_cases c21 : x3_2 < (l0_1.length : Int)
      ·rw [if_pos c21] at H
       have c21b0 : decide (x3_2 < (l0_1.length : Int)) = true := decide_eq_true c21
       clear c21
       by_cases c22 : 0 ≤ x3_2
       ·rw [if_pos c22] at H
        have c22b0 : decide (0 ≤ x3_2) = true := decide_eq_true c22
        clear c22
        replace H := Option.bind_eq_some_iff.mp H
        obtain ⟨t226, A230, H⟩ := H
        replace H : (if t226 = true then (if (rdOf ByteArray.empty l0_1 x3_2).toList = ([] : List UInt8) then (some false) else (if (rdOf ByteArray.empty l0_1 x3_2).toList = ([46] : List UInt8) then (some false) else (if (rdOf ByteArray.empty l0_1 x3_2).toList = ([46, 46] : List UInt8) then (some false) else (spec_AddrOk.l0 k2 (wrap64 (x3_2 + 1)) a0_0 l0_1 a0_2 a0_3)))) else (some false)) = some r := H
        have A23 := Aside0.mk A230
        clear A230
        by_cases c24 : t226 = true
        ·subst c24
         have H1 : (if (rdOf ByteArray.empty l0_1 x3_2).toList = ([] : List UInt8) then (some false) else (if (rdOf ByteArray.empty l0_1 x3_2).toList = ([46] : List UInt8) then (some false) else (if (rdOf ByteArray.empty l0_1 x3_2).toList = ([46, 46] : List UInt8) then (some false) else (spec_AddrOk.l0 k2 (wrap64 (x3_2 + 1)) a0_0 l0_1 a0_2 a0_3)))) = some r := by rw [if_pos rfl] at H; exact H
         clear H
         have H := H1
         clear H1
         by_cases c25 : (rdOf ByteArray.empty l0_1 x3_2).toList = ([] : List UInt8)
         ·rw [if_pos c25] at H
          (try (have c25b0 : (rdOf ByteArray.empty l0_1 x3_2).toList.isEmpty = true := by simpa using c25))
          have c25b1 : ((rdOf ByteArray.empty l0_1 x3_2).toList == ([] : List UInt8)) = true := beq_iff_eq.mpr c25
          have c25b2 : ((rdOf ByteArray.empty l0_1 x3_2).toList != ([] : List UInt8)) = false := bne_eq_false_iff_eq.mpr c25
          clear c25
          obtain rfl := Option.some.inj H
          have hcz26_0 : wr.cell? ⟨gb222, 0, none⟩ = some (.string a0_0) := (blk_cell BK222.out 0).trans rfl
          have hcz26_1 : wr.cell? ⟨gb222, 1, none⟩ = some (.slice A0_1 l0_1.length c0_1) := (blk_cell BK222.out 1).trans rfl
          have hcz26_2 : wr.cell? ⟨gb222, 2, none⟩ = some (.bool a0_2) := (blk_cell BK222.out 2).trans rfl
          have hcz26_3 : wr.cell? ⟨gb222, 3, none⟩ = some (.string a0_3) := (blk_cell BK222.out 3).trans rfl
          have hfz26_0 := blk_frozen BK222.out 0
          have hfz26_1 := blk_frozen BK222.out 1
          have hfz26_2 := blk_frozen BK222.out 2
          have hfz26_3 := blk_frozen BK222.out 3
          have p225 : 0 ≤ (x3_2 : Int) := of_decide_eq_true (by first | (with_reducible assumption) | assumption)
          have q225 : x3_2 < (l0_1.length : Int) := of_decide_eq_true (by first | (with_reducible assumption) | assumption)
          obtain ⟨ad225, e225, hx225_0⟩ := Kd.at_string HR0_1.out x3_2 p225 q225
          cases e225
          replace hx225_0 := (HB.out.cell (World.block_lt_of_cell? w _ hx225_0)).trans hx225_0
          replace p225 := eq_true p225
          replace q225 := eq_true q225
          go_wp2_with (first | ((with_reducible refine gate_callee (f := 60) rfl ?_); refine goesL_ (some 42) rfl rfl Try.func60 (by kernel_rfl) rfl #[.string (rdOf ByteArray.empty l0_1 x3_2)] rfl (by (try simp only [List.map_toArray, List.map_cons, List.map_nil]); first | done | rfl | (simp only [List.length_drop, List.length_take]; rfl)) ?_; (with_reducible refine (spec_l1Norm.calls k2 (rdOf ByteArray.empty l0_1 x3_2) true _ A23.out).mono ?_); rintro e w27 ⟨rfl, hb⟩; refine ⟨_, rfl, ?_⟩; have n0_ := Aside0.mk (blk_below (g := gb222) (o := .cells #[.string a0_0, .slice (some ad225) l0_1.length c0_1, .bool a0_2, .string a0_3] 53 (0, 0)) (by (with_reducible repeat (first | refine blk_drewN ?_ _ | refine blk_drew ?_ | refine blk_alloc ?_ _)); exact BK222.out) hb); have n1_ := Aside0.mk (below_step (by repeat (first | (with_reducible first | exact HB.out | apply below_alloc | apply pw_below_drewN | apply below_drew1 | refine below_set ?_ GE222.out) | exact HB.out)) hb); clear BK222; clear HB; have BK222 := n0_; have HB := n1_; clear n0_ n1_; (try clear hb); (try clear hb2); (try clear hk); (try clear hi); have hcz28_0 : w27.cell? ⟨gb222, 0, none⟩ = some (.string a0_0) := (blk_cell BK222.out 0).trans rfl; have hcz28_1 : w27.cell? ⟨gb222, 1, none⟩ = some (.slice (some ad225) l0_1.length c0_1) := (blk_cell BK222.out 1).trans rfl; have hcz28_2 : w27.cell? ⟨gb222, 2, none⟩ = some (.bool a0_2) := (blk_cell BK222.out 2).trans rfl; have hcz28_3 : w27.cell? ⟨gb222, 3, none⟩ = some (.string a0_3) := (blk_cell BK222.out 3).trans rfl; have hfz28_0 := blk_frozen BK222.out 0; have hfz28_1 := blk_frozen BK222.out 1; have hfz28_2 := blk_frozen BK222.out 2; have hfz28_3 := blk_frozen BK222.out 3; have p227 : 0 ≤ (x3_2 : Int) := of_decide_eq_true (by first | (with_reducible assumption) | assumption); have q227 : x3_2 < (l0_1.length : Int) := of_decide_eq_true (by first | (with_reducible assumption) | assumption); obtain ⟨ad227, e227, hx227_0⟩ := Kd.at_string HR0_1.out x3_2 p227 q227; obtain rfl : ad225 = ad227 := (by injection e227); replace hx227_0 := (HB.out.cell (World.block_lt_of_cell? w _ hx227_0)).trans hx227_0; replace p227 := eq_true p227; replace q227 := eq_true q227))
          go_ret
          exact ⟨by first | rfl | (simp <;> rfl) | (simp [*] <;> rfl), by repeat (first | (with_reducible first | exact HB.out | apply below_alloc | apply pw_below_drewN | apply below_drew1 | refine below_set ?_ GE222.out) | exact HB.out)⟩
         ·rw [if_neg c25] at H
          (try (have c25b0 : (rdOf ByteArray.empty l0_1 x3_2).toList.isEmpty = false := by simpa using c25))
          have c25b1 : ((rdOf ByteArray.empty l0_1 x3_2).toList == ([] : List UInt8)) = false := beq_eq_false_iff_ne.mpr c25
          have c25b2 : ((rdOf ByteArray.empty l0_1 x3_2).toList != ([] : List UInt8)) = true := bne_iff_ne.mpr c25
          by_cases c29 : (rdOf ByteArray.empty l0_1 x3_2).toList = ([46] : List UInt8)
          ·rw [if_pos c29] at H
           have c29b0 : ((rdOf ByteArray.empty l0_1 x3_2).toList == ([46] : List UInt8)) = true := beq_iff_eq.mpr c29
           have c29b1 : ((rdOf ByteArray.empty l0_1 x3_2).toList != ([46] : List UInt8)) = false := bne_eq_false_iff_eq.mpr c29
           clear c29
           obtain rfl := Option.some.inj H
           have hcz30_0 : wr.cell? ⟨gb222, 0, none⟩ = some (.string a0_0) := (blk_cell BK222.out 0).trans rfl
           have hcz30_1 : wr.cell? ⟨gb222, 1, none⟩ = some (.slice A0_1 l0_1.length c0_1) := (blk_cell BK222.out 1).trans rfl
           have hcz30_2 : wr.cell? ⟨gb222, 2, none⟩ = some (.bool a0_2) := (blk_cell BK222.out 2).trans rfl
           have hcz30_3 : wr.cell? ⟨gb222, 3, none⟩ = some (.string a0_3) := (blk_cell BK222.out 3).trans rfl
           have hfz30_0 := blk_frozen BK222.out 0
           have hfz30_1 := blk_frozen BK222.out 1
           have hfz30_2 := blk_frozen BK222.out 2
           have hfz30_3 := blk_frozen BK222.out 3
           have p225 : 0 ≤ (x3_2 : Int) := of_decide_eq_true (by first | (with_reducible assumption) | assumption)
           have q225 : x3_2 < (l0_1.length : Int) := of_decide_eq_true (by first | (with_reducible assumption) | assumption)
           obtain ⟨ad225, e225, hx225_0⟩ := Kd.at_string HR0_1.out x3_2 p225 q225
           cases e225
           replace hx225_0 := (HB.out.cell (World.block_lt_of_cell? w _ hx225_0)).trans hx225_0
           replace p225 := eq_true p225
           replace q225 := eq_true q225
           go_wp2_with (first | ((with_reducible refine gate_callee (f := 60) rfl ?_); refine goesL_ (some 42) rfl rfl Try.func60 (by kernel_rfl) rfl #[.string (rdOf ByteArray.empty l0_1 x3_2)] rfl (by (try simp only [List.map_toArray, List.map_cons, List.map_nil]); first | done | rfl | (simp only [List.length_drop, List.length_take]; rfl)) ?_; (with_reducible refine (spec_l1Norm.calls k2 (rdOf ByteArray.empty l0_1 x3_2) true _ A23.out).mono ?_); rintro e w31 ⟨rfl, hb⟩; refine ⟨_, rfl, ?_⟩; have n0_ := Aside0.mk (blk_below (g := gb222) (o := .cells #[.string a0_0, .slice (some ad225) l0_1.length c0_1, .bool a0_2, .string a0_3] 53 (0, 0)) (by (with_reducible repeat (first | refine blk_drewN ?_ _ | refine blk_drew ?_ | refine blk_alloc ?_ _)); exact BK222.out) hb); have n1_ := Aside0.mk (below_step (by repeat (first | (with_reducible first | exact HB.out | apply below_alloc | apply pw_below_drewN | apply below_drew1 | refine below_set ?_ GE222.out) | exact HB.out)) hb); clear BK222; clear HB; have BK222 := n0_; have HB := n1_; clear n0_ n1_; (try clear hb); (try clear hb2); (try clear hk); (try clear hi); have hcz32_0 : w31.cell? ⟨gb222, 0, none⟩ = some (.string a0_0) := (blk_cell BK222.out 0).trans rfl; have hcz32_1 : w31.cell? ⟨gb222, 1, none⟩ = some (.slice (some ad225) l0_1.length c0_1) := (blk_cell BK222.out 1).trans rfl; have hcz32_2 : w31.cell? ⟨gb222, 2, none⟩ = some (.bool a0_2) := (blk_cell BK222.out 2).trans rfl; have hcz32_3 : w31.cell? ⟨gb222, 3, none⟩ = some (.string a0_3) := (blk_cell BK222.out 3).trans rfl; have hfz32_0 := blk_frozen BK222.out 0; have hfz32_1 := blk_frozen BK222.out 1; have hfz32_2 := blk_frozen BK222.out 2; have hfz32_3 := blk_frozen BK222.out 3; have p227 : 0 ≤ (x3_2 : Int) := of_decide_eq_true (by first | (with_reducible assumption) | assumption); have q227 : x3_2 < (l0_1.length : Int) := of_decide_eq_true (by first | (with_reducible assumption) | assumption); obtain ⟨ad227, e227, hx227_0⟩ := Kd.at_string HR0_1.out x3_2 p227 q227; obtain rfl : ad225 = ad227 := (by injection e227); replace hx227_0 := (HB.out.cell (World.block_lt_of_cell? w _ hx227_0)).trans hx227_0; replace p227 := eq_true p227; replace q227 := eq_true q227; have p228 : 0 ≤ (x3_2 : Int) := of_decide_eq_true (by first | (with_reducible assumption) | assumption); have q228 : x3_2 < (l0_1.length : Int) := of_decide_eq_true (by first | (with_reducible assumption) | assumption); obtain ⟨ad228, e228, hx228_0⟩ := Kd.at_string HR0_1.out x3_2 p228 q228; obtain rfl : ad225 = ad228 := (by injection e228); replace hx228_0 := (HB.out.cell (World.block_lt_of_cell? w _ hx228_0)).trans hx228_0; replace p228 := eq_true p228; replace q228 := eq_true q228))
           go_ret
           exact ⟨by first | rfl | (simp <;> rfl) | (simp [*] <;> rfl), by repeat (first | (with_reducible first | exact HB.out | apply below_alloc | apply pw_below_drewN | apply below_drew1 | refine below_set ?_ GE222.out) | exact HB.out)⟩
          ·rw [if_neg c29] at H
           have c29b0 : ((rdOf ByteArray.empty l0_1 x3_2).toList == ([46] : List UInt8)) = false := beq_eq_false_iff_ne.mpr c29
           have c29b1 : ((rdOf ByteArray.empty l0_1 x3_2).toList != ([46] : List UInt8)) = true := bne_iff_ne.mpr c29
           by_cases c33 : (rdOf ByteArray.empty l0_1 x3_2).toList = ([46, 46] : List UInt8)
           ·rw [if_pos c33] at H
            have c33b0 : ((rdOf ByteArray.empty l0_1 x3_2).toList == ([46, 46] : List UInt8)) = true := beq_iff_eq.mpr c33
            have c33b1 : ((rdOf ByteArray.empty l0_1 x3_2).toList != ([46, 46] : List UInt8)) = false := bne_eq_false_iff_eq.mpr c33
            clear c33
            obtain rfl := Option.some.inj H
            have hcz34_0 : wr.cell? ⟨gb222, 0, none⟩ = some (.string a0_0) := (blk_cell BK222.out 0).trans rfl
            have hcz34_1 : wr.cell? ⟨gb222, 1, none⟩ = some (.slice A0_1 l0_1.length c0_1) := (blk_cell BK222.out 1).trans rfl
            have hcz34_2 : wr.cell? ⟨gb222, 2, none⟩ = some (.bool a0_2) := (blk_cell BK222.out 2).trans rfl
            have hcz34_3 : wr.cell? ⟨gb222, 3, none⟩ = some (.string a0_3) := (blk_cell BK222.out 3).trans rfl
            have hfz34_0 := blk_frozen BK222.out 0
            have hfz34_1 := blk_frozen BK222.out 1
            have hfz34_2 := blk_frozen BK222.out 2
            have hfz34_3 := blk_frozen BK222.out 3
            have p225 : 0 ≤ (x3_2 : Int) := of_decide_eq_true (by first | (with_reducible assumption) | assumption)
            have q225 : x3_2 < (l0_1.length : Int) := of_decide_eq_true (by first | (with_reducible assumption) | assumption)
            obtain ⟨ad225, e225, hx225_0⟩ := Kd.at_string HR0_1.out x3_2 p225 q225
            cases e225
            replace hx225_0 := (HB.out.cell (World.block_lt_of_cell? w _ hx225_0)).trans hx225_0
            replace p225 := eq_true p225
            replace q225 := eq_true q225
            go_wp2_with (first | ((with_reducible refine gate_callee (f := 60) rfl ?_); refine goesL_ (some 42) rfl rfl Try.func60 (by kernel_rfl) rfl #[.string (rdOf ByteArray.empty l0_1 x3_2)] rfl (by (try simp only [List.map_toArray, List.map_cons, List.map_nil]); first | done | rfl | (simp only [List.length_drop, List.length_take]; rfl)) ?_; (with_reducible refine (spec_l1Norm.calls k2 (rdOf ByteArray.empty l0_1 x3_2) true _ A23.out).mono ?_); rintro e w35 ⟨rfl, hb⟩; refine ⟨_, rfl, ?_⟩; have n0_ := Aside0.mk (blk_below (g := gb222) (o := .cells #[.string a0_0, .slice (some ad225) l0_1.length c0_1, .bool a0_2, .string a0_3] 53 (0, 0)) (by (with_reducible repeat (first | refine blk_drewN ?_ _ | refine blk_drew ?_ | refine blk_alloc ?_ _)); exact BK222.out) hb); have n1_ := Aside0.mk (below_step (by repeat (first | (with_reducible first | exact HB.out | apply below_alloc | apply pw_below_drewN | apply below_drew1 | refine below_set ?_ GE222.out) | exact HB.out)) hb); clear BK222; clear HB; have BK222 := n0_; have HB := n1_; clear n0_ n1_; (try clear hb); (try clear hb2); (try clear hk); (try clear hi); have hcz36_0 : w35.cell? ⟨gb222, 0, none⟩ = some (.string a0_0) := (blk_cell BK222.out 0).trans rfl; have hcz36_1 : w35.cell? ⟨gb222, 1, none⟩ = some (.slice (some ad225) l0_1.length c0_1) := (blk_cell BK222.out 1).trans rfl; have hcz36_2 : w35.cell? ⟨gb222, 2, none⟩ = some (.bool a0_2) := (blk_cell BK222.out 2).trans rfl; have hcz36_3 : w35.cell? ⟨gb222, 3, none⟩ = some (.string a0_3) := (blk_cell BK222.out 3).trans rfl; have hfz36_0 := blk_frozen BK222.out 0; have hfz36_1 := blk_frozen BK222.out 1; have hfz36_2 := blk_frozen BK222.out 2; have hfz36_3 := blk_frozen BK222.out 3; have p227 : 0 ≤ (x3_2 : Int) := of_decide_eq_true (by first | (with_reducible assumption) | assumption); have q227 : x3_2 < (l0_1.length : Int) := of_decide_eq_true (by first | (with_reducible assumption) | assumption); obtain ⟨ad227, e227, hx227_0⟩ := Kd.at_string HR0_1.out x3_2 p227 q227; obtain rfl : ad225 = ad227 := (by injection e227); replace hx227_0 := (HB.out.cell (World.block_lt_of_cell? w _ hx227_0)).trans hx227_0; replace p227 := eq_true p227; replace q227 := eq_true q227; have p228 : 0 ≤ (x3_2 : Int) := of_decide_eq_true (by first | (with_reducible assumption) | assumption); have q228 : x3_2 < (l0_1.length : Int) := of_decide_eq_true (by first | (with_reducible assumption) | assumption); obtain ⟨ad228, e228, hx228_0⟩ := Kd.at_string HR0_1.out x3_2 p228 q228; obtain rfl : ad225 = ad228 := (by injection e228); replace hx228_0 := (HB.out.cell (World.block_lt_of_cell? w _ hx228_0)).trans hx228_0; replace p228 := eq_true p228; replace q228 := eq_true q228; have p229 : 0 ≤ (x3_2 : Int) := of_decide_eq_true (by first | (with_reducible assumption) | assumption); have q229 : x3_2 < (l0_1.length : Int) := of_decide_eq_true (by first | (with_reducible assumption) | assumption); obtain ⟨ad229, e229, hx229_0⟩ := Kd.at_string HR0_1.out x3_2 p229 q229; obtain rfl : ad225 = ad229 := (by injection e229); replace hx229_0 := (HB.out.cell (World.block_lt_of_cell? w _ hx229_0)).trans hx229_0; replace p229 := eq_true p229; replace q229 := eq_true q229))
            go_ret
            exact ⟨by first | rfl | (simp <;> rfl) | (simp [*] <;> rfl), by repeat (first | (with_reducible first | exact HB.out | apply below_alloc | apply pw_below_drewN | apply below_drew1 | refine below_set ?_ GE222.out) | exact HB.out)⟩
           ·rw [if_neg c33] at H
            have c33b0 : ((rdOf ByteArray.empty l0_1 x3_2).toList == ([46, 46] : List UInt8)) = false := beq_eq_false_iff_ne.mpr c33
            have c33b1 : ((rdOf ByteArray.empty l0_1 x3_2).toList != ([46, 46] : List UInt8)) = true := bne_iff_ne.mpr c33
            have H' := Aside0.mk H
            clear H
            have hcz37_0 : wr.cell? ⟨gb222, 0, none⟩ = some (.string a0_0) := (blk_cell BK222.out 0).trans rfl
            have hcz37_1 : wr.cell? ⟨gb222, 1, none⟩ = some (.slice A0_1 l0_1.length c0_1) := (blk_cell BK222.out 1).trans rfl
            have hcz37_2 : wr.cell? ⟨gb222, 2, none⟩ = some (.bool a0_2) := (blk_cell BK222.out 2).trans rfl
            have hcz37_3 : wr.cell? ⟨gb222, 3, none⟩ = some (.string a0_3) := (blk_cell BK222.out 3).trans rfl
            have hfz37_0 := blk_frozen BK222.out 0
            have hfz37_1 := blk_frozen BK222.out 1
            have hfz37_2 := blk_frozen BK222.out 2
            have hfz37_3 := blk_frozen BK222.out 3
            have p225 : 0 ≤ (x3_2 : Int) := of_decide_eq_true (by first | (with_reducible assumption) | assumption)
            have q225 : x3_2 < (l0_1.length : Int) := of_decide_eq_true (by first | (with_reducible assumption) | assumption)
            obtain ⟨ad225, e225, hx225_0⟩ := Kd.at_string HR0_1.out x3_2 p225 q225
            cases e225
            replace hx225_0 := (HB.out.cell (World.block_lt_of_cell? w _ hx225_0)).trans hx225_0
            replace p225 := eq_true p225
            replace q225 := eq_true q225
            go_wp2_with (first | ((with_reducible refine gate_callee (f := 60) rfl ?_); refine goesL_ (some 42) rfl rfl Try.func60 (by kernel_rfl) rfl #[.string (rdOf ByteArray.empty l0_1 x3_2)] rfl (by (try simp only [List.map_toArray, List.map_cons, List.map_nil]); first | done | rfl | (simp only [List.length_drop, List.length_take]; rfl)) ?_; (with_reducible refine (spec_l1Norm.calls k2 (rdOf ByteArray.empty l0_1 x3_2) true _ A23.out).mono ?_); rintro e w38 ⟨rfl, hb⟩; refine ⟨_, rfl, ?_⟩; have n0_ := Aside0.mk (blk_below (g := gb222) (o := .cells #[.string a0_0, .slice (some ad225) l0_1.length c0_1, .bool a0_2, .string a0_3] 53 (0, 0)) (by (with_reducible repeat (first | refine blk_drewN ?_ _ | refine blk_drew ?_ | refine blk_alloc ?_ _)); exact BK222.out) hb); have n1_ := Aside0.mk (below_step (by repeat (first | (with_reducible first | exact HB.out | apply below_alloc | apply pw_below_drewN | apply below_drew1 | refine below_set ?_ GE222.out) | exact HB.out)) hb); clear BK222; clear HB; have BK222 := n0_; have HB := n1_; clear n0_ n1_; (try clear hb); (try clear hb2); (try clear hk); (try clear hi); have hcz39_0 : w38.cell? ⟨gb222, 0, none⟩ = some (.string a0_0) := (blk_cell BK222.out 0).trans rfl; have hcz39_1 : w38.cell? ⟨gb222, 1, none⟩ = some (.slice (some ad225) l0_1.length c0_1) := (blk_cell BK222.out 1).trans rfl; have hcz39_2 : w38.cell? ⟨gb222, 2, none⟩ = some (.bool a0_2) := (blk_cell BK222.out 2).trans rfl; have hcz39_3 : w38.cell? ⟨gb222, 3, none⟩ = some (.string a0_3) := (blk_cell BK222.out 3).trans rfl; have hfz39_0 := blk_frozen BK222.out 0; have hfz39_1 := blk_frozen BK222.out 1; have hfz39_2 := blk_frozen BK222.out 2; have hfz39_3 := blk_frozen BK222.out 3; have p227 : 0 ≤ (x3_2 : Int) := of_decide_eq_true (by first | (with_reducible assumption) | assumption); have q227 : x3_2 < (l0_1.length : Int) := of_decide_eq_true (by first | (with_reducible assumption) | assumption); obtain ⟨ad227, e227, hx227_0⟩ := Kd.at_string HR0_1.out x3_2 p227 q227; obtain rfl : ad225 = ad227 := (by injection e227); replace hx227_0 := (HB.out.cell (World.block_lt_of_cell? w _ hx227_0)).trans hx227_0; replace p227 := eq_true p227; replace q227 := eq_true q227; have p228 : 0 ≤ (x3_2 : Int) := of_decide_eq_true (by first | (with_reducible assumption) | assumption); have q228 : x3_2 < (l0_1.length : Int) := of_decide_eq_true (by first | (with_reducible assumption) | assumption); obtain ⟨ad228, e228, hx228_0⟩ := Kd.at_string HR0_1.out x3_2 p228 q228; obtain rfl : ad225 = ad228 := (by injection e228); replace hx228_0 := (HB.out.cell (World.block_lt_of_cell? w _ hx228_0)).trans hx228_0; replace p228 := eq_true p228; replace q228 := eq_true q228; have p229 : 0 ≤ (x3_2 : Int) := of_decide_eq_true (by first | (with_reducible assumption) | assumption); have q229 : x3_2 < (l0_1.length : Int) := of_decide_eq_true (by first | (with_reducible assumption) | assumption); obtain ⟨ad229, e229, hx229_0⟩ := Kd.at_string HR0_1.out x3_2 p229 q229; obtain rfl : ad225 = ad229 := (by injection e229); replace hx229_0 := (HB.out.cell (World.block_lt_of_cell? w _ hx229_0)).trans hx229_0; replace p229 := eq_true p229; replace q229 := eq_true q229))
            go_roundg k2
            case measure => have := HJ1.out; have := HK2.out; omega
            case rel => exact ⟨(wrap64 (x3_2 + 1)), (by first | rfl | (simp; done) | (simp only [i64_w, i32_w]; done) | (simp only [i64_w, i32_w]; rfl) | (simp [*]; done) | (simp [emp_bne, emp_beq]; done)), H', ⟨by have := HJ1.out; have := HK2.out; omega⟩, ⟨by (with_reducible repeat (first | refine blk_drewN ?_ _ | refine blk_drew ?_ | refine blk_alloc ?_ _)); exact BK222.out⟩, ⟨by repeat (first | (with_reducible first | exact HB.out | apply below_alloc | apply pw_below_drewN | apply below_drew1 | refine below_set ?_ GE222.out) | exact HB.out)⟩⟩
        ·replace c24 := Bool.eq_false_iff.mpr c24
         subst c24
         have H1 : (some false) = some r := by rw [if_neg (show ¬ (false = true) by decide)] at H; exact H
         clear H
         have H := H1
         clear H1
         obtain rfl := Option.some.inj H
         have hcz40_0 : wr.cell? ⟨gb222, 0, none⟩ = some (.string a0_0) := (blk_cell BK222.out 0).trans rfl
         have hcz40_1 : wr.cell? ⟨gb222, 1, none⟩ = some (.slice A0_1 l0_1.length c0_1) := (blk_cell BK222.out 1).trans rfl
         have hcz40_2 : wr.cell? ⟨gb222, 2, none⟩ = some (.bool a0_2) := (blk_cell BK222.out 2).trans rfl
         have hcz40_3 : wr.cell? ⟨gb222, 3, none⟩ = some (.string a0_3) := (blk_cell BK222.out 3).trans rfl
         have hfz40_0 := blk_frozen BK222.out 0
         have hfz40_1 := blk_frozen BK222.out 1
         have hfz40_2 := blk_frozen BK222.out 2
         have hfz40_3 := blk_frozen BK222.out 3
         have p225 : 0 ≤ (x3_2 : Int) := of_decide_eq_true (by first | (with_reducible assumption) | assumption)
         have q225 : x3_2 < (l0_1.length : Int) := of_decide_eq_true (by first | (with_reducible assumption) | assumption)
         obtain ⟨ad225, e225, hx225_0⟩ := Kd.at_string HR0_1.out x3_2 p225 q225
         cases e225
         replace hx225_0 := (HB.out.cell (World.block_lt_of_cell? w _ hx225_0)).trans hx225_0
         replace p225 := eq_true p225
         replace q225 := eq_true q225
         go_wp2_with (first | ((with_reducible refine gate_callee (f := 60) rfl ?_); refine goesL_ (some 42) rfl rfl Try.func60 (by kernel_rfl) rfl #[.string (rdOf ByteArray.empty l0_1 x3_2)] rfl (by (try simp only [List.map_toArray, List.map_cons, List.map_nil]); first | done | rfl | (simp only [List.length_drop, List.length_take]; rfl)) ?_; (with_reducible refine (spec_l1Norm.calls k2 (rdOf ByteArray.empty l0_1 x3_2) false _ A23.out).mono ?_); rintro e w41 ⟨rfl, hb⟩; refine ⟨_, rfl, ?_⟩; have n0_ := Aside0.mk (blk_below (g := gb222) (o := .cells #[.string a0_0, .slice (some ad225) l0_1.length c0_1, .bool a0_2, .string a0_3] 53 (0, 0)) (by (with_reducible repeat (first | refine blk_drewN ?_ _ | refine blk_drew ?_ | refine blk_alloc ?_ _)); exact BK222.out) hb); have n1_ := Aside0.mk (below_step (by repeat (first | (with_reducible first | exact HB.out | apply below_alloc | apply pw_below_drewN | apply below_drew1 | refine below_set ?_ GE222.out) | exact HB.out)) hb); clear BK222; clear HB; have BK222 := n0_; have HB := n1_; clear n0_ n1_; (try clear hb); (try clear hb2); (try clear hk); (try clear hi)))
         go_ret
         exact ⟨by first | rfl | (simp <;> rfl) | (simp [*] <;> rfl), by repeat (first | (with_reducible first | exact HB.out | apply below_alloc | apply pw_below_drewN | apply below_drew1 | refine below_set ?_ GE222.out) | exact HB.out)⟩
       ·rw [if_neg c22] at H
        exact absurd H (by simp)
      ·rw [if_neg c21] at H
       have c21b0 : decide (x3_2 < (l0_1.length : Int)) = false := decide_eq_false c21
       clear c21
       replace H := Option.bind_eq_some_iff.mp H
       obtain ⟨t230, A420, H⟩ := H
       replace H : (some (decide ((t230.size : Int) ≤ 60))) = some r := H
       have A42 := Aside0.mk A420
       clear A420
       obtain rfl := Option.some.inj H
       have hcz43_0 : wr.cell? ⟨gb222, 0, none⟩ = some (.string a0_0) := (blk_cell BK222.out 0).trans rfl
       have hcz43_1 : wr.cell? ⟨gb222, 1, none⟩ = some (.slice A0_1 l0_1.length c0_1) := (blk_cell BK222.out 1).trans rfl
       have hcz43_2 : wr.cell? ⟨gb222, 2, none⟩ = some (.bool a0_2) := (blk_cell BK222.out 2).trans rfl
       have hcz43_3 : wr.cell? ⟨gb222, 3, none⟩ = some (.string a0_3) := (blk_cell BK222.out 3).trans rfl
       have hfz43_0 := blk_frozen BK222.out 0
       have hfz43_1 := blk_frozen BK222.out 1
       have hfz43_2 := blk_frozen BK222.out 2
       have hfz43_3 := blk_frozen BK222.out 3
       go_wp2_with (first | ((with_reducible refine gate_callee (f := 58) rfl ?_); refine goesL_ (some 69) rfl rfl Try.func58 (by kernel_rfl) rfl #[.agg #[.string a0_0, .slice A0_1 l0_1.length c0_1, .bool a0_2, .string a0_3]] rfl (by (try simp only [List.map_toArray, List.map_cons, List.map_nil]); first | done | rfl | (simp only [List.length_drop, List.length_take]; rfl)) ?_; (with_reducible refine (spec_l1Text.calls k2 a0_0 _ _ l0_1 a0_2 a0_3 t230 _ ?side1 ?side2 A42.out).mono ?_); (case side1 => repeat (first | exact (Kd.C_below HR0_1.out HB.out) | (with_reducible refine Kd.C_alloc ?_ _) | (with_reducible refine Kd.C_drewN ?_ _) | (with_reducible refine Kd.C_drew ?_))); (case side2 => exact HC0_1.out); rintro e w44 ⟨rfl, hb⟩; refine ⟨_, rfl, ?_⟩; have n0_ := Aside0.mk (blk_below (g := gb222) (o := .cells #[.string a0_0, .slice A0_1 l0_1.length c0_1, .bool a0_2, .string a0_3] 53 (0, 0)) (by (with_reducible repeat (first | refine blk_drewN ?_ _ | refine blk_drew ?_ | refine blk_alloc ?_ _)); exact BK222.out) hb); have n1_ := Aside0.mk (below_step (by repeat (first | (with_reducible first | exact HB.out | apply below_alloc | apply pw_below_drewN | apply below_drew1 | refine below_set ?_ GE222.out) | exact HB.out)) hb); clear BK222; clear HB; have BK222 := n0_; have HB := n1_; clear n0_ n1_; (try clear hb); (try clear hb2); (try clear hk); (try clear hi)))
       go_ret
       exact ⟨by first | rfl | (simp <;> rfl) | (simp [*] <;> rfl), by repeat (first | (with_reducible first | exact HB.out | apply below_alloc | apply pw_below_drewN | apply below_drew1 | refine below_set ?_ GE222.out) | exact HB.out)⟩

/-! ### spec_PathClean: function 62 -/
mutual
def spec_PathClean.l0 : Nat → List ByteArray → List ByteArray → Int → Option (List ByteArray)
 | 0, _, _, _ => none
 | k + 1, x0, x3, x4 => if x4 < (x0.length : Int) then (if 0 ≤ x4 then (if (rdOf ByteArray.empty x0 x4).toList = ([] : List UInt8) then (spec_PathClean.j1 k x0 x3 x4 true) else (spec_PathClean.j1 k x0 x3 x4 ((rdOf ByteArray.empty x0 x4).toList == ([46] : List UInt8)))) else (none)) else (some x3)
def spec_PathClean.j1 : Nat → List ByteArray → List ByteArray → Int → Bool → Option (List ByteArray)
 | 0, _, _, _, _ => none
 | k + 1, x0, x3, x4, x19 => if x19 = true then (spec_PathClean.l0 k x0 x3 (wrap64 (x4 + 1))) else (if 0 ≤ x4 then (if x4 < (x0.length : Int) then (if (rdOf ByteArray.empty x0 x4).toList = ([46, 46] : List UInt8) then (if 0 ≤ (mx (wrap64 ((x3.length : Int) - 1)) 0) then (if (mx (wrap64 ((x3.length : Int) - 1)) 0) ≤ (x3.length : Int) then (spec_PathClean.l0 k x0 (x3.take ((mx (wrap64 ((x3.length : Int) - 1)) 0) : Int).toNat) (wrap64 (x4 + 1))) else (none)) else (none)) else (if x3.length < 8796093022208 then (spec_PathClean.l0 k x0 (x3 ++ [rdOf ByteArray.empty x0 x4]) (wrap64 (x4 + 1))) else (none))) else (none)) else (none))
end
def spec_PathClean.f (k : Nat) (l0 : List ByteArray) : Option (List ByteArray) := spec_PathClean.l0 k l0 (([] : List ByteArray)) 0
theorem spec_PathClean.mono_l : ∀ k, (∀ y0 y1 y2, LeO (spec_PathClean.l0 k y0 y1 y2) (spec_PathClean.l0 (k + 1) y0 y1 y2)) ∧ (∀ y0 y1 y2 y3, LeO (spec_PathClean.j1 k y0 y1 y2 y3) (spec_PathClean.j1 (k + 1) y0 y1 y2 y3))
 | 0 => ⟨fun _ _ _ r h => by simp [spec_PathClean.l0] at h, fun _ _ _ _ r h => by simp [spec_PathClean.j1] at h⟩
 | k + 1 => by
  obtain ⟨ih0, ih1⟩ := spec_PathClean.mono_l k
  refine ⟨?_, ?_⟩
  ·intro y0 y1 y2
   unfold spec_PathClean.l0
   repeat' first
   | (with_reducible exact ih0 _ _ _)
   | (with_reducible exact ih1 _ _ _ _)
   | (with_reducible exact LeO.refl _)
   | (with_reducible exact LeO.none _)
   | (with_reducible refine LeO.ite ?_ ?_)
   | (with_reducible refine LeO.bind ?_ (fun _ => ?_))
   | exact ih0 _ _ _
   | exact ih1 _ _ _ _
   | exact LeO.none _
   | refine LeO.ite ?_ ?_
   | refine LeO.bind ?_ (fun _ => ?_)
  ·intro y0 y1 y2 y3
   unfold spec_PathClean.j1
   repeat' first
   | (with_reducible exact ih0 _ _ _)
   | (with_reducible exact ih1 _ _ _ _)
   | (with_reducible exact LeO.refl _)
   | (with_reducible exact LeO.none _)
   | (with_reducible refine LeO.ite ?_ ?_)
   | (with_reducible refine LeO.bind ?_ (fun _ => ?_))
   | exact ih0 _ _ _
   | exact ih1 _ _ _ _
   | exact LeO.none _
   | refine LeO.ite ?_ ?_
   | refine LeO.bind ?_ (fun _ => ?_)
theorem spec_PathClean.mono : ∀ a0 k, LeO (spec_PathClean.f k a0) (spec_PathClean.f (k + 1) a0) := by
 intro a0 k
 obtain ⟨ih0, ih1⟩ := spec_PathClean.mono_l k
 unfold spec_PathClean.f
 repeat' first
   | (with_reducible exact ih0 _ _ _)
   | (with_reducible exact ih1 _ _ _ _)
   | (with_reducible exact LeO.refl _)
   | (with_reducible exact LeO.none _)
   | (with_reducible refine LeO.ite ?_ ?_)
   | (with_reducible refine LeO.bind ?_ (fun _ => ?_))
   | exact ih0 _ _ _
   | exact ih1 _ _ _ _
   | exact LeO.none _
   | refine LeO.ite ?_ ?_
   | refine LeO.bind ?_ (fun _ => ?_)
theorem spec_PathClean.calls (k : Nat) (A0 : Option Addr) (c0 : Nat) (l0 : List ByteArray) (r : List ByteArray) (w : World) (hr0 : Kd.C Kd.string w A0 l0.length l0) (hc0 : l0.length ≤ c0) (h : spec_PathClean.f k l0 = some r) :
  Calls Try.prog 62 #[.slice A0 l0.length c0] w fun e w' => ∃ v0_ : Value, e = .returned (v0_) ∧ Kd.R Kd.string 9 w' w.heap.size (fun _ => True) v0_ r ∧ Below w.heap.size w w' := by
 have HR0 := Aside0.mk hr0
 have HC0 := Aside0.mk hc0
 clear hr0 hc0
 have HB := Aside0.mk (Below.refl w.heap.size w)
 have H : (spec_PathClean.l0 k l0 (([] : List ByteArray)) 0) = some r := h
 clear h
 obtain ⟨y231, hy231⟩ : ∃ y_ : List ByteArray, y_ = (([] : List ByteArray)) := ⟨_, rfl⟩
 replace H : (spec_PathClean.l0 k l0 y231 0) = some r := by first | (rw [hy231]; with_reducible exact H) | (have H2_ := (Option.bind_some _ _).symm.trans H; rw [hy231]; with_reducible exact H2_) | (have H2_ := (Option.bind_some _ _).symm.trans H; with_reducible exact H2_) | with_reducible exact H | (rw [hy231]; exact H) | exact H
 have Ny231 := Aside0.mk hy231
 clear hy231
 have H' := Aside0.mk H
 clear H
 go_enter Try.func62, Try.ntmps62
 go_wp2_with (first | ((with_reducible refine gate_dst (N := 5) rfl ?_); refine Kd.R_lit Kd.string _ 9 ?hg (N := 5) ?hd (xs := ([] : List ByteArray)) (inner := []) (ok := fun _ => True) (okp := fun _ => True) ?hr ?hp (fun _ hk => hk) trivial (Below.refl _ _) (Nat.le_refl _) (by simp) ?_; (case hd => rfl); (case hg => rfl); (case hr => first | (go_simp; done) | (go_simp; rfl)); (case hp => exact (Reps.none _ _)); intro v232 w2 ho3 hb hg_ hnew_; clear hg_ hnew_; (first | rw [← Ny231.out] at ho3 | (simp only [Int.reduceToNat] at ho3; rw [← Ny231.out] at ho3)); have n0_ := Aside0.mk (Kd.R_lower ho3 (below_size (by repeat (first | (with_reducible first | exact HB.out | apply below_alloc | apply pw_below_drewN | apply below_drew1) | exact HB.out)))); have n1_ := Aside0.mk (below_step (by repeat (first | (with_reducible first | exact HB.out | apply below_alloc | apply pw_below_drewN | apply below_drew1) | exact HB.out)) hb); clear HB; have HO233 := n0_; have HB := n1_; clear n0_ n1_; clear hb ho3))
 go_loopg [3, 4] k (fun kq v3 v4 w' => ∃ (x3_1 : List ByteArray) (x4_1 : Int), v4 = .int .i64 x4_1 ∧ Aside0 (spec_PathClean.l0 kq l0 x3_1 x4_1 = some r) ∧ Aside0 (kq ≤ k) ∧ Aside0 (Kd.R Kd.string 9 w' w.heap.size (fun _ => True) v3 x3_1) ∧ Aside0 (Below w.heap.size w w'))
 case atStart => exact ⟨(y231), (0), (by first | rfl | (simp; done) | (simp only [i64_w, i32_w]; done) | (simp only [i64_w, i32_w]; rfl) | (simp [*]; done) | (simp [emp_bne, emp_beq]; done)), H', ⟨Nat.le_refl _⟩, ⟨by (with_reducible repeat (first | apply Kd.R_alloc | apply Kd.R_drewN | apply Kd.R_drew)); exact HO233.out⟩, ⟨by repeat (first | (with_reducible first | exact HB.out | apply below_alloc | apply pw_below_drewN | apply below_drew1) | exact HB.out)⟩⟩
 case round =>
  clear H'
  try clear p2
  obtain ⟨x3_1, x4_1, rfl, HA, HK1, HO_3, HB⟩ := hrel
  cases gk with
  | zero => exact absurd HA.out (by simp [spec_PathClean.l0])
  | succ k1 =>
   have H := HA.out
   clear HA
   simp only [spec_PathClean.l0] at H
   by_cases c4 : x4_1 < (l0.length : Int)
   ·rw [if_pos c4] at H
    have c4b0 : decide (x4_1 < (l0.length : Int)) = true := decide_eq_true c4
    clear c4
    have HC5 := Aside0.mk H
    clear H
    go_upto_region 6 with (fail)
    go_cut [19] (fun v19 wc => ∃ (kq : Nat) (x19_4 : Bool), v19 = .bool x19_4 ∧ Aside0 (spec_PathClean.j1 kq l0 x3_1 x4_1 x19_4 = some r) ∧ Aside0 (kq ≤ k1) ∧ Aside0 (Kd.R Kd.string 9 wc w.heap.size (fun _ => True) u3 x3_1) ∧ Aside0 (Below w.heap.size w wc))
    case first =>
     have H := HC5.out
     clear HC5
     by_cases c6 : 0 ≤ x4_1
     ·rw [if_pos c6] at H
      have c6b0 : decide (0 ≤ x4_1) = true := decide_eq_true c6
      clear c6
      (first | rw [c6b0] | (simp only [i64_w, i32_w]; rw [c6b0]) | skip)
      by_cases c7 : (rdOf ByteArray.empty l0 x4_1).toList = ([] : List UInt8)
      ·rw [if_pos c7] at H
       (try (have c7b0 : (rdOf ByteArray.empty l0 x4_1).toList.isEmpty = true := by simpa using c7))
       have c7b1 : ((rdOf ByteArray.empty l0 x4_1).toList == ([] : List UInt8)) = true := beq_iff_eq.mpr c7
       have c7b2 : ((rdOf ByteArray.empty l0 x4_1).toList != ([] : List UInt8)) = false := bne_eq_false_iff_eq.mpr c7
       clear c7
       have H' := Aside0.mk H
       clear H
       have p234 : 0 ≤ (x4_1 : Int) := of_decide_eq_true (by first | (with_reducible assumption) | assumption)
       have q234 : x4_1 < (l0.length : Int) := of_decide_eq_true (by first | (with_reducible assumption) | assumption)
       obtain ⟨ad234, e234, hx234_0⟩ := Kd.at_string HR0.out x4_1 p234 q234
       cases e234
       replace hx234_0 := (HB.out.cell (World.block_lt_of_cell? w _ hx234_0)).trans hx234_0
       replace p234 := eq_true p234
       replace q234 := eq_true q234
       go_wp2
       go_meet
       case rel => exact ⟨_, (true), (by first | rfl | (simp; done) | (simp only [i64_w, i32_w]; done) | (simp only [i64_w, i32_w]; rfl) | (simp [*]; done) | (simp [emp_bne, emp_beq]; done)), H', ⟨by have := HK1.out; first | omega | exact Nat.le_refl _⟩, ⟨by (with_reducible repeat (first | apply Kd.R_alloc | apply Kd.R_drewN | apply Kd.R_drew)); exact HO_3.out⟩, ⟨by repeat (first | (with_reducible first | exact HB.out | apply below_alloc | apply pw_below_drewN | apply below_drew1) | exact HB.out)⟩⟩
      ·rw [if_neg c7] at H
       (try (have c7b0 : (rdOf ByteArray.empty l0 x4_1).toList.isEmpty = false := by simpa using c7))
       have c7b1 : ((rdOf ByteArray.empty l0 x4_1).toList == ([] : List UInt8)) = false := beq_eq_false_iff_ne.mpr c7
       have c7b2 : ((rdOf ByteArray.empty l0 x4_1).toList != ([] : List UInt8)) = true := bne_iff_ne.mpr c7
       have H' := Aside0.mk H
       clear H
       have p234 : 0 ≤ (x4_1 : Int) := of_decide_eq_true (by first | (with_reducible assumption) | assumption)
       have q234 : x4_1 < (l0.length : Int) := of_decide_eq_true (by first | (with_reducible assumption) | assumption)
       obtain ⟨ad234, e234, hx234_0⟩ := Kd.at_string HR0.out x4_1 p234 q234
       cases e234
       replace hx234_0 := (HB.out.cell (World.block_lt_of_cell? w _ hx234_0)).trans hx234_0
       replace p234 := eq_true p234
       replace q234 := eq_true q234
       have p235 : 0 ≤ (x4_1 : Int) := of_decide_eq_true (by first | (with_reducible assumption) | assumption)
       have q235 : x4_1 < (l0.length : Int) := of_decide_eq_true (by first | (with_reducible assumption) | assumption)
       obtain ⟨ad235, e235, hx235_0⟩ := Kd.at_string HR0.out x4_1 p235 q235
       obtain rfl : ad234 = ad235 := (by injection e235)
       replace hx235_0 := (HB.out.cell (World.block_lt_of_cell? w _ hx235_0)).trans hx235_0
       replace p235 := eq_true p235
       replace q235 := eq_true q235
       go_wp2
       go_meet
       case rel => exact ⟨_, (((rdOf ByteArray.empty l0 x4_1).toList == ([46] : List UInt8))), (by first | rfl | (simp; done) | (simp only [i64_w, i32_w]; done) | (simp only [i64_w, i32_w]; rfl) | (simp [*]; done) | (simp [emp_bne, emp_beq]; done)), H', ⟨by have := HK1.out; first | omega | exact Nat.le_refl _⟩, ⟨by (with_reducible repeat (first | apply Kd.R_alloc | apply Kd.R_drewN | apply Kd.R_drew)); exact HO_3.out⟩, ⟨by repeat (first | (with_reducible first | exact HB.out | apply below_alloc | apply pw_below_drewN | apply below_drew1) | exact HB.out)⟩⟩
     ·rw [if_neg c6] at H
      exact absurd H (by simp)
    case rest =>
     clear HC5
     try clear p2
     try clear q2
     try clear hx2
     try clear c4
     try clear c4b0
     try clear c6
     try clear c6b0
     try clear c7
     try clear c7b0
     try clear c7b1
     try clear c7b2
     try clear hx234_0
     try clear hx235_0
     try clear p2
     try clear p234
     try clear p235
     try clear q234
     try clear q235
     obtain ⟨kq, x19_4, rfl, HA, HJ4, HO_3, HB⟩ := hcut
     cases kq with
     | zero => exact absurd HA.out (by simp [spec_PathClean.j1])
     | succ kj4 =>
      have H := HA.out
      clear HA
      simp only [spec_PathClean.j1] at H
      by_cases c8 : x19_4 = true
      ·subst c8
       have H1 : (spec_PathClean.l0 kj4 l0 x3_1 (wrap64 (x4_1 + 1))) = some r := by rw [if_pos rfl] at H; exact H
       clear H
       have H := H1
       clear H1
       have H' := Aside0.mk H
       clear H
       go_wp2
       go_roundg kj4
       case measure => have := HK1.out; have := HJ4.out; omega
       case rel => exact ⟨(x3_1), (wrap64 (x4_1 + 1)), (by first | rfl | (simp; done) | (simp only [i64_w, i32_w]; done) | (simp only [i64_w, i32_w]; rfl) | (simp [*]; done) | (simp [emp_bne, emp_beq]; done)), H', ⟨by have := HK1.out; have := HJ4.out; omega⟩, ⟨by (with_reducible repeat (first | apply Kd.R_alloc | apply Kd.R_drewN | apply Kd.R_drew)); exact HO_3.out⟩, ⟨by repeat (first | (with_reducible first | exact HB.out | apply below_alloc | apply pw_below_drewN | apply below_drew1) | exact HB.out)⟩⟩
      ·replace c8 := Bool.eq_false_iff.mpr c8
       subst c8
       have H1 : (if 0 ≤ x4_1 then (if x4_1 < (l0.length : Int) then (if (rdOf ByteArray.empty l0 x4_1).toList = ([46, 46] : List UInt8) then (if 0 ≤ (mx (wrap64 ((x3_1.length : Int) - 1)) 0) then (if (mx (wrap64 ((x3_1.length : Int) - 1)) 0) ≤ (x3_1.length : Int) then (spec_PathClean.l0 kj4 l0 (x3_1.take ((mx (wrap64 ((x3_1.length : Int) - 1)) 0) : Int).toNat) (wrap64 (x4_1 + 1))) else (none)) else (none)) else (if x3_1.length < 8796093022208 then (spec_PathClean.l0 kj4 l0 (x3_1 ++ [rdOf ByteArray.empty l0 x4_1]) (wrap64 (x4_1 + 1))) else (none))) else (none)) else (none)) = some r := by rw [if_neg (show ¬ (false = true) by decide)] at H; exact H
       clear H
       have H := H1
       clear H1
       by_cases c9 : 0 ≤ x4_1
       ·rw [if_pos c9] at H
        have c9b0 : decide (0 ≤ x4_1) = true := decide_eq_true c9
        clear c9
        by_cases c10 : x4_1 < (l0.length : Int)
        ·rw [if_pos c10] at H
         have c10b0 : decide (x4_1 < (l0.length : Int)) = true := decide_eq_true c10
         clear c10
         by_cases c11 : (rdOf ByteArray.empty l0 x4_1).toList = ([46, 46] : List UInt8)
         ·rw [if_pos c11] at H
          have c11b0 : ((rdOf ByteArray.empty l0 x4_1).toList == ([46, 46] : List UInt8)) = true := beq_iff_eq.mpr c11
          have c11b1 : ((rdOf ByteArray.empty l0 x4_1).toList != ([46, 46] : List UInt8)) = false := bne_eq_false_iff_eq.mpr c11
          clear c11
          obtain ⟨ji12, hji12⟩ : ∃ j_ : Int, (mx (wrap64 ((x3_1.length : Int) - 1)) 0) = j_ := ⟨_, rfl⟩
          replace H : (if 0 ≤ (ji12) then (if (ji12) ≤ (x3_1.length : Int) then (spec_PathClean.l0 kj4 l0 (x3_1.take ((ji12) : Int).toNat) (wrap64 (x4_1 + 1))) else (none)) else (none)) = some r := by first | (rw [hji12] at H; exact H) | (simp only [hji12] at H ⊢; exact H)
          have hji12_ : (if (wrap64 ((x3_1.length : Int) - 1)) < 0 then 0 else (wrap64 ((x3_1.length : Int) - 1))) = ji12 := hji12
          by_cases c13 : 0 ≤ (ji12)
          ·rw [if_pos c13] at H
           have c13b0 := eq_true c13
           have c13b1 := decide_eq_true c13
           clear c13
           by_cases c14 : (ji12) ≤ (x3_1.length : Int)
           ·rw [if_pos c14] at H
            have c14b0 := eq_true c14
            have c14b1 := decide_eq_true c14
            clear c14
            obtain ⟨y237, hy237⟩ : ∃ y_ : List ByteArray, y_ = (x3_1.take ((ji12) : Int).toNat) := ⟨_, rfl⟩
            replace H : (spec_PathClean.l0 kj4 l0 y237 (wrap64 (x4_1 + 1))) = some r := by first | (rw [hy237]; with_reducible exact H) | (have H2_ := (Option.bind_some _ _).symm.trans H; rw [hy237]; with_reducible exact H2_) | (have H2_ := (Option.bind_some _ _).symm.trans H; with_reducible exact H2_) | with_reducible exact H | (rw [hy237]; exact H) | exact H
            have Ny237 := Aside0.mk hy237
            clear hy237
            have H' := Aside0.mk H
            clear H
            have p236 : 0 ≤ (x4_1 : Int) := of_decide_eq_true (by first | (with_reducible assumption) | assumption)
            have q236 : x4_1 < (l0.length : Int) := of_decide_eq_true (by first | (with_reducible assumption) | assumption)
            obtain ⟨ad236, e236, hx236_0⟩ := Kd.at_string HR0.out x4_1 p236 q236
            cases e236
            replace hx236_0 := (HB.out.cell (World.block_lt_of_cell? w _ hx236_0)).trans hx236_0
            replace p236 := eq_true p236
            replace q236 := eq_true q236
            obtain ⟨Ao15, co15, eo15⟩ := Kd.R_slice HO_3.out
            subst eo15
            have q16 : ((ji12) : Int) ≤ ((x3_1.length : Int) : Int) := of_decide_eq_true (by first | (with_reducible assumption) | assumption)
            obtain ⟨i016, hi016, _, hsz16, _⟩ := info_parts info9
            have hcut16 := cut_to (P := Try.prog) 51 9 .i64 Try.underlying51 hi016 Ao15 x3_1.length co15 (ji12) (of_decide_eq_true (by first | (with_reducible assumption) | assumption)) q16 (Kd.R_reads' HO_3.out).2.1
            have hr16 := Kd.R_take (m := ((ji12) : Int).toNat) HO_3.out (by omega)
            have hy16 : y237.length = ((ji12) : Int).toNat := (by rw [Ny237.out, List.length_take]; omega)
            rw [← Ny237.out] at hr16
            rw [← hy16] at hr16 hcut16
            clear hy16 hi016 hsz16 HO_3
            have HO239 := Aside0.mk hr16
            clear hr16
            replace q16 := eq_true q16
            go_wp2
            go_roundg kj4
            case measure => have := HK1.out; have := HJ4.out; omega
            case rel => exact ⟨(y237), (wrap64 (x4_1 + 1)), (by first | rfl | (simp; done) | (simp only [i64_w, i32_w]; done) | (simp only [i64_w, i32_w]; rfl) | (simp [*]; done) | (simp [emp_bne, emp_beq]; done)), H', ⟨by have := HK1.out; have := HJ4.out; omega⟩, ⟨by (with_reducible repeat (first | apply Kd.R_alloc | apply Kd.R_drewN | apply Kd.R_drew)); exact HO239.out⟩, ⟨by repeat (first | (with_reducible first | exact HB.out | apply below_alloc | apply pw_below_drewN | apply below_drew1) | exact HB.out)⟩⟩
           ·rw [if_neg c14] at H
            exact absurd H (by simp)
          ·rw [if_neg c13] at H
           exact absurd H (by simp)
         ·rw [if_neg c11] at H
          have c11b0 : ((rdOf ByteArray.empty l0 x4_1).toList == ([46, 46] : List UInt8)) = false := beq_eq_false_iff_ne.mpr c11
          have c11b1 : ((rdOf ByteArray.empty l0 x4_1).toList != ([46, 46] : List UInt8)) = true := bne_iff_ne.mpr c11
          by_cases c17 : x3_1.length < 8796093022208
          ·rw [if_pos c17] at H
           have LMc17 := Aside0.mk c17
           clear c17
           obtain ⟨y241, hy241⟩ : ∃ y_ : List ByteArray, y_ = (x3_1 ++ [rdOf ByteArray.empty l0 x4_1]) := ⟨_, rfl⟩
           replace H : (spec_PathClean.l0 kj4 l0 y241 (wrap64 (x4_1 + 1))) = some r := by first | (rw [hy241]; with_reducible exact H) | (have H2_ := (Option.bind_some _ _).symm.trans H; rw [hy241]; with_reducible exact H2_) | (have H2_ := (Option.bind_some _ _).symm.trans H; with_reducible exact H2_) | with_reducible exact H | (rw [hy241]; exact H) | exact H
           have Ny241 := Aside0.mk hy241
           clear hy241
           have H' := Aside0.mk H
           clear H
           have p236 : 0 ≤ (x4_1 : Int) := of_decide_eq_true (by first | (with_reducible assumption) | assumption)
           have q236 : x4_1 < (l0.length : Int) := of_decide_eq_true (by first | (with_reducible assumption) | assumption)
           obtain ⟨ad236, e236, hx236_0⟩ := Kd.at_string HR0.out x4_1 p236 q236
           cases e236
           replace hx236_0 := (HB.out.cell (World.block_lt_of_cell? w _ hx236_0)).trans hx236_0
           replace p236 := eq_true p236
           replace q236 := eq_true q236
           have p240 : 0 ≤ (x4_1 : Int) := of_decide_eq_true (by first | (with_reducible assumption) | assumption)
           have q240 : x4_1 < (l0.length : Int) := of_decide_eq_true (by first | (with_reducible assumption) | assumption)
           obtain ⟨ad240, e240, hx240_0⟩ := Kd.at_string HR0.out x4_1 p240 q240
           obtain rfl : ad236 = ad240 := (by injection e240)
           replace hx240_0 := (HB.out.cell (World.block_lt_of_cell? w _ hx240_0)).trans hx240_0
           replace p240 := eq_true p240
           replace q240 := eq_true q240
           go_wp2_with (first | ((with_reducible refine gate_builtin (b := .append) (xs := #[.tmp 12, .tmp 17]) rfl ?_); at_builtin; refine Kd.R_append Kd.string (w0 := w) w.heap.size rfl (.tmp 12) (.tmp 17) 51 9 (.string ⟨#[]⟩) 16 rfl Try.underlying51 info9 rfl (by decide) (by omega) u3 x3_1 (rdOf ByteArray.empty l0 x4_1) [.string (rdOf ByteArray.empty l0 x4_1)] (fun _ => True) (fun _ => False) rfl rfl ?aP (fun _ hk => hk.elim) ?aF ?aO ?aB ?aS ?aL ?_; (case aP => exact rfl); (case aB => exact (by repeat (first | (with_reducible first | exact HB.out | apply below_alloc | apply pw_below_drewN | apply below_drew1) | exact HB.out))); (case aF => exact (fun _ _ => trivial)); (case aO => exact (by (with_reducible repeat (first | apply Kd.R_alloc | apply Kd.R_drewN | apply Kd.R_drew)); exact HO_3.out)); (case aS => exact (below_size (by repeat (first | (with_reducible first | exact HB.out | apply below_alloc | apply pw_below_drewN | apply below_drew1) | exact HB.out)))); (case aL => have := LMc17.out; omega); intro v242 w18 ho hb hg hat; rw [← Ny241.out] at ho; have n0_ := Aside0.mk (hb); have n1_ := Aside0.mk (ho); clear HB; clear HO_3; have HB := n0_; have HO243 := n1_; clear n0_ n1_; clear ho hb hg hat))
           go_roundg kj4
           case measure => have := HK1.out; have := HJ4.out; omega
           case rel => exact ⟨(y241), (wrap64 (x4_1 + 1)), (by first | rfl | (simp; done) | (simp only [i64_w, i32_w]; done) | (simp only [i64_w, i32_w]; rfl) | (simp [*]; done) | (simp [emp_bne, emp_beq]; done)), H', ⟨by have := HK1.out; have := HJ4.out; omega⟩, ⟨by (with_reducible repeat (first | apply Kd.R_alloc | apply Kd.R_drewN | apply Kd.R_drew)); exact HO243.out⟩, ⟨by repeat (first | (with_reducible first | exact HB.out | apply below_alloc | apply pw_below_drewN | apply below_drew1) | exact HB.out)⟩⟩
          ·rw [if_neg c17] at H
           exact absurd H (by simp)
        ·rw [if_neg c10] at H
         exact absurd H (by simp)
       ·rw [if_neg c9] at H
        exact absurd H (by simp)
   ·rw [if_neg c4] at H
    have c4b0 : decide (x4_1 < (l0.length : Int)) = false := decide_eq_false c4
    clear c4
    obtain rfl := Option.some.inj H
    go_wp2
    go_ret
    exact ⟨_, by first | rfl | (simp <;> rfl) | (simp [*] <;> rfl), by (with_reducible repeat (first | apply Kd.R_alloc | apply Kd.R_drewN | apply Kd.R_drew)); exact HO_3.out, by repeat (first | (with_reducible first | exact HB.out | apply below_alloc | apply pw_below_drewN | apply below_drew1) | exact HB.out)⟩

end Go.Proofs.Ytmkncihmgbjgnaa.P
