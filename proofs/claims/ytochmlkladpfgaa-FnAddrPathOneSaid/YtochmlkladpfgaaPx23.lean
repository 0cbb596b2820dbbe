-- Written by a program of this session (patch_print.py over the kit's print; given texts in wip/given).
import Derived.Test.YtochmlkladpfgaaPx0
import Derived.Test.YtochmlkladpfgaaPx15
import Derived.Test.YtochmlkladpfgaaPx17
import Derived.Test.YtochmlkladpfgaaPx18
namespace Go.Proofs.Ytochmlkladpfgaa.P
open Go.RowKit Go.Proofs.YtochmlkladpfgaaW.PrintWords Go.Proofs.YtochmlkladpfgaaW.PrintLast Go.Proofs.YtochmlkladpfgaaW.PrintMore
attribute [local go_sem] max2_int min2_int max_two min_two max_three min_three max_four min_four   -- for this text's walks alone
set_option linter.unusedVariables false
set_option linter.unusedSimpArgs false
set_option maxHeartbeats 8000000
set_option maxRecDepth 100000

/-! ### laws_FnAddrPathOne: function 8 -/
mutual
def laws_FnAddrPathOne.j0 : Nat → List Int → List Int → Bool → Option (Bool)
 | 0, _, _, _ => none
 | k + 1, x0, x1, x16 => if x16 = true then (some true) else ((spec_DrawAddrPath.f k x0).bind fun bt430 => ((spec_DrawAddrPath.f k x1).bind fun bt437 => ((impl_AddrPath.f k bt430.1 bt430.2.1 bt430.2.2.1 bt430.2.2.2).bind fun t444 => ((impl_AddrPath.f k bt437.1 bt437.2.1 bt437.2.2.1 bt437.2.2.2).bind fun t445 => ((spec_AddrPath.f k bt430.1 bt430.2.1 bt430.2.2.1 bt430.2.2.2).bind fun t446 => (if t444.toList = t446.toList then ((spec_AddrPath.f k bt437.1 bt437.2.1 bt437.2.2.1 bt437.2.2.2).bind fun t447 => (if t445.toList = t447.toList then (if t444.toList = ([] : List UInt8) then (laws_FnAddrPathOne.j1 k t444 t445 true bt430.1 bt430.2.1 bt430.2.2.1 bt430.2.2.2 bt437.1 bt437.2.1 bt437.2.2.1 bt437.2.2.2) else (laws_FnAddrPathOne.j1 k t444 t445 (t445.toList == ([] : List UInt8)) bt430.1 bt430.2.1 bt430.2.2.1 bt430.2.2.2 bt437.1 bt437.2.1 bt437.2.2.1 bt437.2.2.2)) else (laws_FnAddrPathOne.j1 k t444 t445 true bt430.1 bt430.2.1 bt430.2.2.1 bt430.2.2.2 bt437.1 bt437.2.1 bt437.2.2.1 bt437.2.2.2))) else (laws_FnAddrPathOne.j1 k t444 t445 true bt430.1 bt430.2.1 bt430.2.2.1 bt430.2.2.2 bt437.1 bt437.2.1 bt437.2.2.1 bt437.2.2.2)))))))
def laws_FnAddrPathOne.j1 : Nat → ByteArray → ByteArray → Bool → ByteArray → List ByteArray → Bool → ByteArray → ByteArray → List ByteArray → Bool → ByteArray → Option (Bool)
 | 0, _, _, _, _, _, _, _, _, _, _, _ => none
 | k + 1, x7, x8, x42, x437000, x437001, x437002, x437003, x444000, x444001, x444002, x444003 => if x42 = true then ((spec_AddrPath.f k x437000 x437001 x437002 x437003).bind fun t448 => (if x7.toList = t448.toList then ((spec_AddrPath.f k x444000 x444001 x444002 x444003).bind fun t449 => (some (x8.toList == t449.toList))) else (some false))) else ((laws_lpAddr.f k x437000 x437001 x437002 x437003 x437000 x444001 x444002 x444003).bind fun t450 => (some ((x7.toList == x8.toList) == t450)))
end
def laws_FnAddrPathOne.f (k : Nat) (l0 : List Int) (l1 : List Int) : Option (Bool) := if (l0.length : Int) > 1048576 then (laws_FnAddrPathOne.j0 k l0 l1 true) else (laws_FnAddrPathOne.j0 k l0 l1 (decide ((l1.length : Int) > 1048576)))
theorem laws_FnAddrPathOne.mono_l : ∀ k, (∀ y0 y1 y2, LeO (laws_FnAddrPathOne.j0 k y0 y1 y2) (laws_FnAddrPathOne.j0 (k + 1) y0 y1 y2)) ∧ (∀ y0 y1 y2 y3 y4 y5 y6 y7 y8 y9 y10, LeO (laws_FnAddrPathOne.j1 k y0 y1 y2 y3 y4 y5 y6 y7 y8 y9 y10) (laws_FnAddrPathOne.j1 (k + 1) y0 y1 y2 y3 y4 y5 y6 y7 y8 y9 y10))
 | 0 => ⟨fun _ _ _ r h => by simp [laws_FnAddrPathOne.j0] at h, fun _ _ _ _ _ _ _ _ _ _ _ r h => by simp [laws_FnAddrPathOne.j1] at h⟩
 | k + 1 => by
  obtain ⟨ih0, ih1⟩ := laws_FnAddrPathOne.mono_l k
  refine ⟨?_, ?_⟩
  ·intro y0 y1 y2
   unfold laws_FnAddrPathOne.j0
   repeat' first
   | (with_reducible exact ih0 _ _ _)
   | (with_reducible exact ih1 _ _ _ _ _ _ _ _ _ _ _)
   | (with_reducible exact impl_AddrPath.mono _ _ _ _ _)
   | (with_reducible exact laws_lpAddr.mono _ _ _ _ _ _ _ _ _)
   | (with_reducible exact spec_AddrPath.mono _ _ _ _ _)
   | (with_reducible exact spec_DrawAddrPath.mono _ _)
   | (with_reducible exact LeO.refl _)
   | (with_reducible exact LeO.none _)
   | (with_reducible refine LeO.ite ?_ ?_)
   | (with_reducible refine LeO.bind ?_ (fun _ => ?_))
   | exact ih0 _ _ _
   | exact ih1 _ _ _ _ _ _ _ _ _ _ _
   | exact impl_AddrPath.mono _ _ _ _ _
   | exact laws_lpAddr.mono _ _ _ _ _ _ _ _ _
   | exact spec_AddrPath.mono _ _ _ _ _
   | exact spec_DrawAddrPath.mono _ _
   | exact LeO.none _
   | refine LeO.ite ?_ ?_
   | refine LeO.bind ?_ (fun _ => ?_)
  ·intro y0 y1 y2 y3 y4 y5 y6 y7 y8 y9 y10
   unfold laws_FnAddrPathOne.j1
   repeat' first
   | (with_reducible exact ih0 _ _ _)
   | (with_reducible exact ih1 _ _ _ _ _ _ _ _ _ _ _)
   | (with_reducible exact impl_AddrPath.mono _ _ _ _ _)
   | (with_reducible exact laws_lpAddr.mono _ _ _ _ _ _ _ _ _)
   | (with_reducible exact spec_AddrPath.mono _ _ _ _ _)
   | (with_reducible exact spec_DrawAddrPath.mono _ _)
   | (with_reducible exact LeO.refl _)
   | (with_reducible exact LeO.none _)
   | (with_reducible refine LeO.ite ?_ ?_)
   | (with_reducible refine LeO.bind ?_ (fun _ => ?_))
   | exact ih0 _ _ _
   | exact ih1 _ _ _ _ _ _ _ _ _ _ _
   | exact impl_AddrPath.mono _ _ _ _ _
   | exact laws_lpAddr.mono _ _ _ _ _ _ _ _ _
   | exact spec_AddrPath.mono _ _ _ _ _
   | exact spec_DrawAddrPath.mono _ _
   | exact LeO.none _
   | refine LeO.ite ?_ ?_
   | refine LeO.bind ?_ (fun _ => ?_)
theorem laws_FnAddrPathOne.mono : ∀ a0 a1 k, LeO (laws_FnAddrPathOne.f k a0 a1) (laws_FnAddrPathOne.f (k + 1) a0 a1) := by
 intro a0 a1 k
 obtain ⟨ih0, ih1⟩ := laws_FnAddrPathOne.mono_l k
 unfold laws_FnAddrPathOne.f
 repeat' first
   | (with_reducible exact ih0 _ _ _)
   | (with_reducible exact ih1 _ _ _ _ _ _ _ _ _ _ _)
   | (with_reducible exact impl_AddrPath.mono _ _ _ _ _)
   | (with_reducible exact laws_lpAddr.mono _ _ _ _ _ _ _ _ _)
   | (with_reducible exact spec_AddrPath.mono _ _ _ _ _)
   | (with_reducible exact spec_DrawAddrPath.mono _ _)
   | (with_reducible exact LeO.refl _)
   | (with_reducible exact LeO.none _)
   | (with_reducible refine LeO.ite ?_ ?_)
   | (with_reducible refine LeO.bind ?_ (fun _ => ?_))
   | exact ih0 _ _ _
   | exact ih1 _ _ _ _ _ _ _ _ _ _ _
   | exact impl_AddrPath.mono _ _ _ _ _
   | exact laws_lpAddr.mono _ _ _ _ _ _ _ _ _
   | exact spec_AddrPath.mono _ _ _ _ _
   | exact spec_DrawAddrPath.mono _ _
   | exact LeO.none _
   | refine LeO.ite ?_ ?_
   | refine LeO.bind ?_ (fun _ => ?_)
theorem laws_FnAddrPathOne.calls (k : Nat) (A0 : Option Addr) (c0 : Nat) (l0 : List Int) (A1 : Option Addr) (c1 : Nat) (l1 : List Int) (r : Bool) (w : World) (hr0 : Kd.C (Kd.int .u8) w A0 l0.length l0) (hc0 : l0.length ≤ c0) (hr1 : Kd.C (Kd.int .u8) w A1 l1.length l1) (hc1 : l1.length ≤ c1) (h : laws_FnAddrPathOne.f k l0 l1 = some r) :
  Calls Try.prog 8 #[.slice A0 l0.length c0, .slice A1 l1.length c1] w fun e w' => e = .returned (.bool r) ∧ Below w.heap.size w w' := by
 have hu27 := Try.underlying27
 have HR0 := Aside0.mk hr0
 have HC0 := Aside0.mk hc0
 clear hr0 hc0
 have HR1 := Aside0.mk hr1
 have HC1 := Aside0.mk hc1
 clear hr1 hc1
 have HB := Aside0.mk (Below.refl w.heap.size w)
 have H : (if (l0.length : Int) > 1048576 then (laws_FnAddrPathOne.j0 k l0 l1 true) else (laws_FnAddrPathOne.j0 k l0 l1 (decide ((l1.length : Int) > 1048576)))) = some r := h
 clear h
 have HC3 := Aside0.mk H
 clear H
 go_enter Try.func8, Try.ntmps8
 go_upto_region 1 with (fail)
 go_cut [16] (fun v16 wc => ∃ (kq : Nat) (x16_2 : Bool), v16 = .bool x16_2 ∧ Aside0 (laws_FnAddrPathOne.j0 kq l0 l1 x16_2 = some r) ∧ Aside0 (kq ≤ k) ∧ Aside0 (Below w.heap.size w wc))
 case first =>
  have H := HC3.out
  clear HC3
  by_cases c4 : (l0.length : Int) > 1048576
  ·rw [if_pos c4] at H
   have c4b0 : decide (1048576 < (l0.length : Int)) = true := decide_eq_true c4
   have c4b1 : decide (1048576 < l0.length) = true := decide_eq_true (by omega)
   clear c4
   (first | rw [c4b0] | (simp only [i64_w, i32_w]; rw [c4b0]) | skip)
   have H' := Aside0.mk H
   clear H
   go_wp2
   go_meet
   case rel => exact ⟨_, (true), (by first | rfl | (simp; done) | (simp only [i64_w, i32_w]; done) | (simp only [i64_w, i32_w]; rfl) | (simp [*]; done) | (simp [emp_bne, emp_beq]; done)), H', ⟨by first | omega | exact Nat.le_refl _⟩, ⟨by repeat (first | (with_reducible first | exact HB.out | apply below_alloc | apply pw_below_drewN | apply below_drew1) | exact HB.out)⟩⟩
  ·rw [if_neg c4] at H
   have c4b0 : decide (1048576 < (l0.length : Int)) = false := decide_eq_false c4
   have c4b1 : decide (1048576 < l0.length) = false := decide_eq_false (by omega)
   clear c4
   (first | rw [c4b0] | (simp only [i64_w, i32_w]; rw [c4b0]) | skip)
   have H' := Aside0.mk H
   clear H
   go_wp2
   go_meet
   case rel => exact ⟨_, (decide ((l1.length : Int) > 1048576)), (by first | rfl | (simp; done) | (simp only [i64_w, i32_w]; done) | (simp only [i64_w, i32_w]; rfl) | (simp [*]; done) | (simp [emp_bne, emp_beq]; done)), H', ⟨by first | omega | exact Nat.le_refl _⟩, ⟨by repeat (first | (with_reducible first | exact HB.out | apply below_alloc | apply pw_below_drewN | apply below_drew1) | exact HB.out)⟩⟩
 case rest =>
  clear HC3
  try clear c1
  try clear p2
  try clear c4
  try clear c4b0
  try clear c4b1
  obtain ⟨kq, x16_2, rfl, HA, HJ2, HB⟩ := hcut
  cases kq with
  | zero => exact absurd HA.out (by simp [laws_FnAddrPathOne.j0])
  | succ kj2 =>
   have H := HA.out
   clear HA
   simp only [laws_FnAddrPathOne.j0] at H
   by_cases c5 : x16_2 = true
   ·subst c5
    have H1 : (some true) = some r := by rw [if_pos rfl] at H; exact H
    clear H
    have H := H1
    clear H1
    obtain rfl := Option.some.inj H
    go_wp2
    go_ret
    exact ⟨by first | rfl | (simp <;> rfl) | (simp [*] <;> rfl), by repeat (first | (with_reducible first | exact HB.out | apply below_alloc | apply pw_below_drewN | apply below_drew1) | exact HB.out)⟩
   ·replace c5 := Bool.eq_false_iff.mpr c5
    subst c5
    have H1 : ((spec_DrawAddrPath.f kj2 l0).bind fun bt430 => ((spec_DrawAddrPath.f kj2 l1).bind fun bt437 => ((impl_AddrPath.f kj2 bt430.1 bt430.2.1 bt430.2.2.1 bt430.2.2.2).bind fun t444 => ((impl_AddrPath.f kj2 bt437.1 bt437.2.1 bt437.2.2.1 bt437.2.2.2).bind fun t445 => ((spec_AddrPath.f kj2 bt430.1 bt430.2.1 bt430.2.2.1 bt430.2.2.2).bind fun t446 => (if t444.toList = t446.toList then ((spec_AddrPath.f kj2 bt437.1 bt437.2.1 bt437.2.2.1 bt437.2.2.2).bind fun t447 => (if t445.toList = t447.toList then (if t444.toList = ([] : List UInt8) then (laws_FnAddrPathOne.j1 kj2 t444 t445 true bt430.1 bt430.2.1 bt430.2.2.1 bt430.2.2.2 bt437.1 bt437.2.1 bt437.2.2.1 bt437.2.2.2) else (laws_FnAddrPathOne.j1 kj2 t444 t445 (t445.toList == ([] : List UInt8)) bt430.1 bt430.2.1 bt430.2.2.1 bt430.2.2.2 bt437.1 bt437.2.1 bt437.2.2.1 bt437.2.2.2)) else (laws_FnAddrPathOne.j1 kj2 t444 t445 true bt430.1 bt430.2.1 bt430.2.2.1 bt430.2.2.2 bt437.1 bt437.2.1 bt437.2.2.1 bt437.2.2.2))) else (laws_FnAddrPathOne.j1 kj2 t444 t445 true bt430.1 bt430.2.1 bt430.2.2.1 bt430.2.2.2 bt437.1 bt437.2.1 bt437.2.2.1 bt437.2.2.2))))))) = some r := by rw [if_neg (show ¬ (false = true) by decide)] at H; exact H
    clear H
    have H := H1
    clear H1
    replace H := Option.bind_eq_some_iff.mp H
    obtain ⟨⟨t430, t431, t434, t435⟩, A60, H⟩ := H
    replace H : ((spec_DrawAddrPath.f kj2 l1).bind fun bt437 => ((impl_AddrPath.f kj2 t430 t431 t434 t435).bind fun t444 => ((impl_AddrPath.f kj2 bt437.1 bt437.2.1 bt437.2.2.1 bt437.2.2.2).bind fun t445 => ((spec_AddrPath.f kj2 t430 t431 t434 t435).bind fun t446 => (if t444.toList = t446.toList then ((spec_AddrPath.f kj2 bt437.1 bt437.2.1 bt437.2.2.1 bt437.2.2.2).bind fun t447 => (if t445.toList = t447.toList then (if t444.toList = ([] : List UInt8) then (laws_FnAddrPathOne.j1 kj2 t444 t445 true t430 t431 t434 t435 bt437.1 bt437.2.1 bt437.2.2.1 bt437.2.2.2) else (laws_FnAddrPathOne.j1 kj2 t444 t445 (t445.toList == ([] : List UInt8)) t430 t431 t434 t435 bt437.1 bt437.2.1 bt437.2.2.1 bt437.2.2.2)) else (laws_FnAddrPathOne.j1 kj2 t444 t445 true t430 t431 t434 t435 bt437.1 bt437.2.1 bt437.2.2.1 bt437.2.2.2))) else (laws_FnAddrPathOne.j1 kj2 t444 t445 true t430 t431 t434 t435 bt437.1 bt437.2.1 bt437.2.2.1 bt437.2.2.2)))))) = some r := H
    have A6 := Aside0.mk A60
    clear A60
    replace H := Option.bind_eq_some_iff.mp H
    obtain ⟨⟨t437, t438, t441, t442⟩, A70, H⟩ := H
    replace H : ((impl_AddrPath.f kj2 t430 t431 t434 t435).bind fun t444 => ((impl_AddrPath.f kj2 t437 t438 t441 t442).bind fun t445 => ((spec_AddrPath.f kj2 t430 t431 t434 t435).bind fun t446 => (if t444.toList = t446.toList then ((spec_AddrPath.f kj2 t437 t438 t441 t442).bind fun t447 => (if t445.toList = t447.toList then (if t444.toList = ([] : List UInt8) then (laws_FnAddrPathOne.j1 kj2 t444 t445 true t430 t431 t434 t435 t437 t438 t441 t442) else (laws_FnAddrPathOne.j1 kj2 t444 t445 (t445.toList == ([] : List UInt8)) t430 t431 t434 t435 t437 t438 t441 t442)) else (laws_FnAddrPathOne.j1 kj2 t444 t445 true t430 t431 t434 t435 t437 t438 t441 t442))) else (laws_FnAddrPathOne.j1 kj2 t444 t445 true t430 t431 t434 t435 t437 t438 t441 t442))))) = some r := H
    have A7 := Aside0.mk A70
    clear A70
    replace H := Option.bind_eq_some_iff.mp H
    obtain ⟨t444, A80, H⟩ := H
    replace H : ((impl_AddrPath.f kj2 t437 t438 t441 t442).bind fun t445 => ((spec_AddrPath.f kj2 t430 t431 t434 t435).bind fun t446 => (if t444.toList = t446.toList then ((spec_AddrPath.f kj2 t437 t438 t441 t442).bind fun t447 => (if t445.toList = t447.toList then (if t444.toList = ([] : List UInt8) then (laws_FnAddrPathOne.j1 kj2 t444 t445 true t430 t431 t434 t435 t437 t438 t441 t442) else (laws_FnAddrPathOne.j1 kj2 t444 t445 (t445.toList == ([] : List UInt8)) t430 t431 t434 t435 t437 t438 t441 t442)) else (laws_FnAddrPathOne.j1 kj2 t444 t445 true t430 t431 t434 t435 t437 t438 t441 t442))) else (laws_FnAddrPathOne.j1 kj2 t444 t445 true t430 t431 t434 t435 t437 t438 t441 t442)))) = some r := H
    have A8 := Aside0.mk A80
    clear A80
    replace H := Option.bind_eq_some_iff.mp H
    obtain ⟨t445, A90, H⟩ := H
    replace H : ((spec_AddrPath.f kj2 t430 t431 t434 t435).bind fun t446 => (if t444.toList = t446.toList then ((spec_AddrPath.f kj2 t437 t438 t441 t442).bind fun t447 => (if t445.toList = t447.toList then (if t444.toList = ([] : List UInt8) then (laws_FnAddrPathOne.j1 kj2 t444 t445 true t430 t431 t434 t435 t437 t438 t441 t442) else (laws_FnAddrPathOne.j1 kj2 t444 t445 (t445.toList == ([] : List UInt8)) t430 t431 t434 t435 t437 t438 t441 t442)) else (laws_FnAddrPathOne.j1 kj2 t444 t445 true t430 t431 t434 t435 t437 t438 t441 t442))) else (laws_FnAddrPathOne.j1 kj2 t444 t445 true t430 t431 t434 t435 t437 t438 t441 t442))) = some r := H
    have A9 := Aside0.mk A90
    clear A90
    have HC10 := Aside0.mk H
    clear H
    go_upto_region 7 with (first | ((with_reducible refine gate_callee (f := 19) rfl ?_); refine goesL_ (some 18) rfl rfl Try.func19 (by kernel_rfl) rfl #[.slice A0 l0.length c0] rfl (by (try simp only [List.map_toArray, List.map_cons, List.map_nil]); first | done | rfl | (simp only [List.length_drop, List.length_take]; rfl)) ?_; (with_reducible refine (spec_DrawAddrPath.calls kj2 _ _ l0 t430 t431 t434 t435 _ ?side1 ?side2 A6.out).mono ?_); (case side1 => repeat (first | exact (Kd.C_below HR0.out HB.out) | (with_reducible refine Kd.C_alloc ?_ _) | (with_reducible refine Kd.C_drewN ?_ _) | (with_reducible refine Kd.C_drew ?_))); (case side2 => exact HC0.out); rintro e w11 ⟨v432, rfl, ho0, hb⟩; refine ⟨_, rfl, ?_⟩; have n0_ := Aside0.mk (Kd.R_lower ho0 (below_size (by repeat (first | (with_reducible first | exact HB.out | apply below_alloc | apply pw_below_drewN | apply below_drew1) | exact HB.out)))); have n1_ := Aside0.mk (below_step (by repeat (first | (with_reducible first | exact HB.out | apply below_alloc | apply pw_below_drewN | apply below_drew1) | exact HB.out)) hb); clear HB; have HO433 := n0_; have HB := n1_; clear n0_ n1_; (try clear hb); (try clear hb2); (try clear hk); (try clear hi); (try clear ho0)) | ((with_reducible refine gate_dst (N := 5) rfl ?_); (try (refine gate_guard (by rfl) ?_; dsimp only)); refine box_event ?hg (N := 5) ?hd (cs := #[.string (⟨#[]⟩ : ByteArray), .slice none 0 0, .bool false, .string (⟨#[]⟩ : ByteArray)]) (t := 27) ?hr ?_; (case hd => rfl); (case hg => rfl); (case hr => first | (go_simp; done) | (go_simp; rfl)); intro gb436 hg w12 hbox hb; have n0_ := Aside0.mk (Kd.R_below (by (with_reducible repeat (first | apply Kd.R_alloc | apply Kd.R_drewN | apply Kd.R_drew)); exact HO433.out) hb); have n1_ := Aside0.mk (below_step (by repeat (first | (with_reducible first | exact HB.out | apply below_alloc | apply pw_below_drewN | apply below_drew1) | exact HB.out)) hb); have n2_ := Aside0.mk (hbox); have n3_ := Aside0.mk ((by rw [hg]; exact (below_size (by repeat (first | (with_reducible first | exact HB.out | apply below_alloc | apply pw_below_drewN | apply below_drew1) | exact HB.out))) : w.heap.size ≤ gb436)); have n4_ := n3_; clear HO433; clear HB; have HO433 := n0_; have HB := n1_; have BK436 := n2_; have GW436 := n3_; have GE436 := n4_; clear n0_ n1_ n2_ n3_ n4_; clear hb hbox hg; have hcz13_0 : w12.cell? ⟨gb436, 0, none⟩ = some (.string (⟨#[]⟩ : ByteArray)) := (blk_cell BK436.out 0).trans rfl; have hcz13_1 : w12.cell? ⟨gb436, 1, none⟩ = some (.slice none 0 0) := (blk_cell BK436.out 1).trans rfl; have hcz13_2 : w12.cell? ⟨gb436, 2, none⟩ = some (.bool false) := (blk_cell BK436.out 2).trans rfl; have hcz13_3 : w12.cell? ⟨gb436, 3, none⟩ = some (.string (⟨#[]⟩ : ByteArray)) := (blk_cell BK436.out 3).trans rfl; have hfz13_0 := blk_frozen BK436.out 0; have hfz13_1 := blk_frozen BK436.out 1; have hfz13_2 := blk_frozen BK436.out 2; have hfz13_3 := blk_frozen BK436.out 3; obtain ⟨Ao14, co14, eo14⟩ := Kd.R_slice HO433.out; subst eo14) | ((with_reducible refine gate_callee (f := 19) rfl ?_); refine goesL_ (some 20) rfl rfl Try.func19 (by kernel_rfl) rfl #[.slice A1 l1.length c1] rfl (by (try simp only [List.map_toArray, List.map_cons, List.map_nil]); first | done | rfl | (simp only [List.length_drop, List.length_take]; rfl)) ?_; (with_reducible refine (spec_DrawAddrPath.calls kj2 _ _ l1 t437 t438 t441 t442 _ ?side1 ?side2 A7.out).mono ?_); (case side1 => exact Kd.C_below HR1.out (by repeat (first | (with_reducible first | exact HB.out | apply below_alloc | apply pw_below_drewN | apply below_drew1 | refine below_set ?_ GE436.out) | exact HB.out))); (case side2 => exact HC1.out); rintro e w15 ⟨v439, rfl, ho0, hb⟩; refine ⟨_, rfl, ?_⟩; have n0_ := Aside0.mk (Kd.R_elder' (by (with_reducible repeat (first | apply Kd.R_alloc | apply Kd.R_drewN | apply Kd.R_drew)); exact (Kd.R_mono (Kd.R_far (p := ⟨gb436, 3, none⟩) (Kd.R_far (p := ⟨gb436, 2, none⟩) (Kd.R_far (p := ⟨gb436, 1, none⟩) (Kd.R_far (p := ⟨gb436, 0, none⟩) (Kd.R_types HO433.out BK436.out (by decide)) (fun _ hk => hk.2) (.string t430)) (fun _ hk => hk.2) (.slice Ao14 t431.length co14)) (fun _ hk => hk.2) (.bool t434)) (fun _ hk => hk.2) (.string t435)) (fun _ h_ => h_.1))) (Kd.R_base ho0) hb); have n1_ := Aside0.mk (Kd.R_lower (Kd.R_new' ho0 (Kd.R_lt (by (with_reducible repeat (first | apply Kd.R_alloc | apply Kd.R_drewN | apply Kd.R_drew)); exact (Kd.R_mono (Kd.R_far (p := ⟨gb436, 3, none⟩) (Kd.R_far (p := ⟨gb436, 2, none⟩) (Kd.R_far (p := ⟨gb436, 1, none⟩) (Kd.R_far (p := ⟨gb436, 0, none⟩) (Kd.R_types HO433.out BK436.out (by decide)) (fun _ hk => hk.2) (.string t430)) (fun _ hk => hk.2) (.slice Ao14 t431.length co14)) (fun _ hk => hk.2) (.bool t434)) (fun _ hk => hk.2) (.string t435)) (fun _ h_ => h_.1))))) (below_size (by repeat (first | (with_reducible first | exact HB.out | apply below_alloc | apply pw_below_drewN | apply below_drew1 | refine below_set ?_ GE436.out) | exact HB.out)))); have n2_ := Aside0.mk (blk_below (g := gb436) (o := .cells #[.string t430, .slice Ao14 t431.length co14, .bool t434, .string t435] 27 (0, 0)) (by (with_reducible repeat (first | refine blk_drewN ?_ _ | refine blk_drew ?_ | refine blk_alloc ?_ _)); refine blk_put (cs := #[.string t430, .slice Ao14 t431.length co14, .bool t434, .string (⟨#[]⟩ : ByteArray)]) ?_ 3 _ rfl; (with_reducible repeat (first | refine blk_drewN ?_ _ | refine blk_drew ?_ | refine blk_alloc ?_ _)); refine blk_put (cs := #[.string t430, .slice Ao14 t431.length co14, .bool false, .string (⟨#[]⟩ : ByteArray)]) ?_ 2 _ rfl; (with_reducible repeat (first | refine blk_drewN ?_ _ | refine blk_drew ?_ | refine blk_alloc ?_ _)); refine blk_put (cs := #[.string t430, .slice none 0 0, .bool false, .string (⟨#[]⟩ : ByteArray)]) ?_ 1 _ rfl; (with_reducible repeat (first | refine blk_drewN ?_ _ | refine blk_drew ?_ | refine blk_alloc ?_ _)); refine blk_put (cs := #[.string (⟨#[]⟩ : ByteArray), .slice none 0 0, .bool false, .string (⟨#[]⟩ : ByteArray)]) ?_ 0 _ rfl; (with_reducible repeat (first | refine blk_drewN ?_ _ | refine blk_drew ?_ | refine blk_alloc ?_ _)); exact BK436.out) hb); have n3_ := Aside0.mk (below_step (by repeat (first | (with_reducible first | exact HB.out | apply below_alloc | apply pw_below_drewN | apply below_drew1 | refine below_set ?_ GE436.out) | exact HB.out)) hb); clear HO433; clear BK436; clear HB; have HO433 := n0_; have HO440 := n1_; have BK436 := n2_; have HB := n3_; clear n0_ n1_ n2_ n3_; (try clear hb); (try clear hb2); (try clear hk); (try clear hi); (try clear ho0)) | ((with_reducible refine gate_dst (N := 6) rfl ?_); (try (refine gate_guard (by rfl) ?_; dsimp only)); refine box_event ?hg (N := 6) ?hd (cs := #[.string (⟨#[]⟩ : ByteArray), .slice none 0 0, .bool false, .string (⟨#[]⟩ : ByteArray)]) (t := 27) ?hr ?_; (case hd => rfl); (case hg => rfl); (case hr => first | (go_simp; done) | (go_simp; rfl)); intro gb443 hg w16 hbox hb; have n0_ := Aside0.mk (Kd.R_below (by (with_reducible repeat (first | apply Kd.R_alloc | apply Kd.R_drewN | apply Kd.R_drew)); exact HO433.out) hb); have n1_ := Aside0.mk (Kd.R_below (by (with_reducible repeat (first | apply Kd.R_alloc | apply Kd.R_drewN | apply Kd.R_drew)); exact HO440.out) hb); have n2_ := Aside0.mk (blk_below (g := gb436) (o := .cells #[.string t430, .slice Ao14 t431.length co14, .bool t434, .string t435] 27 (0, 0)) (by (with_reducible repeat (first | refine blk_drewN ?_ _ | refine blk_drew ?_ | refine blk_alloc ?_ _)); exact BK436.out) hb); have n3_ := Aside0.mk (below_step (by repeat (first | (with_reducible first | exact HB.out | apply below_alloc | apply pw_below_drewN | apply below_drew1 | refine below_set ?_ GE436.out) | exact HB.out)) hb); have n4_ := Aside0.mk (hbox); have n5_ := Aside0.mk ((by rw [hg]; exact (below_size (by repeat (first | (with_reducible first | exact HB.out | apply below_alloc | apply pw_below_drewN | apply below_drew1 | refine below_set ?_ GE436.out) | exact HB.out))) : w.heap.size ≤ gb443)); have n6_ := n5_; have n7_ := Aside0.mk ((by rw [hg]; exact Nat.ne_of_lt (blk_lt (g := gb436) (o := .cells #[.string t430, .slice Ao14 t431.length co14, .bool t434, .string t435] 27 (0, 0)) (by (with_reducible repeat (first | refine blk_drewN ?_ _ | refine blk_drew ?_ | refine blk_alloc ?_ _)); exact BK436.out)) : gb436 ≠ gb443)); have n8_ := Aside0.mk ((by rw [hg]; exact Nat.ne_of_gt (blk_lt (g := gb436) (o := .cells #[.string t430, .slice Ao14 t431.length co14, .bool t434, .string t435] 27 (0, 0)) (by (with_reducible repeat (first | refine blk_drewN ?_ _ | refine blk_drew ?_ | refine blk_alloc ?_ _)); exact BK436.out)) : gb443 ≠ gb436)); clear HO433; clear HO440; clear BK436; clear HB; have HO433 := n0_; have HO440 := n1_; have BK436 := n2_; have HB := n3_; have BK443 := n4_; have GW443 := n5_; have GE443 := n6_; have NB436_443 := n7_; have NB443_436 := n8_; clear n0_ n1_ n2_ n3_ n4_ n5_ n6_ n7_ n8_; clear hb hbox hg; have hnb17 := NB443_436.out; have hnc17 := NB436_443.out; have hcz18_0 : w16.cell? ⟨gb443, 0, none⟩ = some (.string (⟨#[]⟩ : ByteArray)) := (blk_cell BK443.out 0).trans rfl; have hcz18_1 : w16.cell? ⟨gb443, 1, none⟩ = some (.slice none 0 0) := (blk_cell BK443.out 1).trans rfl; have hcz18_2 : w16.cell? ⟨gb443, 2, none⟩ = some (.bool false) := (blk_cell BK443.out 2).trans rfl; have hcz18_3 : w16.cell? ⟨gb443, 3, none⟩ = some (.string (⟨#[]⟩ : ByteArray)) := (blk_cell BK443.out 3).trans rfl; have hfz18_0 := blk_frozen BK443.out 0; have hfz18_1 := blk_frozen BK443.out 1; have hfz18_2 := blk_frozen BK443.out 2; have hfz18_3 := blk_frozen BK443.out 3; obtain ⟨Ao19, co19, eo19⟩ := Kd.R_slice HO440.out; subst eo19; have hcz20_0 : w16.cell? ⟨gb436, 0, none⟩ = some (.string t430) := (blk_cell BK436.out 0).trans rfl; have hcz20_1 : w16.cell? ⟨gb436, 1, none⟩ = some (.slice Ao14 t431.length co14) := (blk_cell BK436.out 1).trans rfl; have hcz20_2 : w16.cell? ⟨gb436, 2, none⟩ = some (.bool t434) := (blk_cell BK436.out 2).trans rfl; have hcz20_3 : w16.cell? ⟨gb436, 3, none⟩ = some (.string t435) := (blk_cell BK436.out 3).trans rfl; have hfz20_0 := blk_frozen BK436.out 0; have hfz20_1 := blk_frozen BK436.out 1; have hfz20_2 := blk_frozen BK436.out 2; have hfz20_3 := blk_frozen BK436.out 3) | ((with_reducible refine gate_callee (f := 16) rfl ?_); refine goesL_ (some 22) rfl rfl Try.func16 (by kernel_rfl) rfl #[.agg #[.string t430, .slice Ao14 t431.length co14, .bool t434, .string t435]] rfl (by (try simp only [List.map_toArray, List.map_cons, List.map_nil]); first | done | rfl | (simp only [List.length_drop, List.length_take]; rfl)) ?_; (with_reducible refine (impl_AddrPath.calls kj2 t430 _ _ t431 t434 t435 t444 _ ?side1 ?side2 A8.out).mono ?_); (case side1 => refine (Kd.R_reads' (e := 9) (base := w.heap.size) (ok := fun k_ => (True ∧ some k_ ≠ (.slice Ao19 t438.length co19 : Value).ownBlock)) (n := t431.length) (c := co14) ?_).2.2; exact (by (with_reducible repeat (first | apply Kd.R_alloc | apply Kd.R_drewN | apply Kd.R_drew)); exact (Kd.R_mono (Kd.R_far (p := ⟨gb443, 3, none⟩) (Kd.R_far (p := ⟨gb443, 2, none⟩) (Kd.R_far (p := ⟨gb443, 1, none⟩) (Kd.R_far (p := ⟨gb443, 0, none⟩) (Kd.R_types HO433.out BK443.out (by decide)) (fun _ hk => hk.2) (.string t437)) (fun _ hk => hk.2) (.slice Ao19 t438.length co19)) (fun _ hk => hk.2) (.bool t441)) (fun _ hk => hk.2) (.string t442)) (fun _ h_ => h_.1)))); (case side2 => exact (Kd.R_reads' HO433.out).2.1); rintro e w21 ⟨rfl, hb⟩; refine ⟨_, rfl, ?_⟩; have n0_ := Aside0.mk (Kd.R_below (by (with_reducible repeat (first | apply Kd.R_alloc | apply Kd.R_drewN | apply Kd.R_drew)); exact (Kd.R_mono (Kd.R_far (p := ⟨gb443, 3, none⟩) (Kd.R_far (p := ⟨gb443, 2, none⟩) (Kd.R_far (p := ⟨gb443, 1, none⟩) (Kd.R_far (p := ⟨gb443, 0, none⟩) (Kd.R_types HO433.out BK443.out (by decide)) (fun _ hk => hk.2) (.string t437)) (fun _ hk => hk.2) (.slice Ao19 t438.length co19)) (fun _ hk => hk.2) (.bool t441)) (fun _ hk => hk.2) (.string t442)) (fun _ h_ => h_.1))) hb); have n1_ := Aside0.mk (Kd.R_below (by (with_reducible repeat (first | apply Kd.R_alloc | apply Kd.R_drewN | apply Kd.R_drew)); exact (Kd.R_mono (Kd.R_far (p := ⟨gb443, 3, none⟩) (Kd.R_far (p := ⟨gb443, 2, none⟩) (Kd.R_far (p := ⟨gb443, 1, none⟩) (Kd.R_far (p := ⟨gb443, 0, none⟩) (Kd.R_types HO440.out BK443.out (by decide)) (fun _ hk => hk.2) (.string t437)) (fun _ hk => hk.2) (.slice Ao19 t438.length co19)) (fun _ hk => hk.2) (.bool t441)) (fun _ hk => hk.2) (.string t442)) (fun _ h_ => h_.1))) hb); have n2_ := Aside0.mk (blk_below (g := gb436) (o := .cells #[.string t430, .slice Ao14 t431.length co14, .bool t434, .string t435] 27 (0, 0)) (by (with_reducible repeat (first | refine blk_drewN ?_ _ | refine blk_drew ?_ | refine blk_alloc ?_ _)); refine blk_far ?_ NB436_443.out _; (with_reducible repeat (first | refine blk_drewN ?_ _ | refine blk_drew ?_ | refine blk_alloc ?_ _)); refine blk_far ?_ NB436_443.out _; (with_reducible repeat (first | refine blk_drewN ?_ _ | refine blk_drew ?_ | refine blk_alloc ?_ _)); refine blk_far ?_ NB436_443.out _; (with_reducible repeat (first | refine blk_drewN ?_ _ | refine blk_drew ?_ | refine blk_alloc ?_ _)); refine blk_far ?_ NB436_443.out _; (with_reducible repeat (first | refine blk_drewN ?_ _ | refine blk_drew ?_ | refine blk_alloc ?_ _)); exact BK436.out) hb); have n3_ := Aside0.mk (blk_below (g := gb443) (o := .cells #[.string t437, .slice Ao19 t438.length co19, .bool t441, .string t442] 27 (0, 0)) (by (with_reducible repeat (first | refine blk_drewN ?_ _ | refine blk_drew ?_ | refine blk_alloc ?_ _)); refine blk_put (cs := #[.string t437, .slice Ao19 t438.length co19, .bool t441, .string (⟨#[]⟩ : ByteArray)]) ?_ 3 _ rfl; (with_reducible repeat (first | refine blk_drewN ?_ _ | refine blk_drew ?_ | refine blk_alloc ?_ _)); refine blk_put (cs := #[.string t437, .slice Ao19 t438.length co19, .bool false, .string (⟨#[]⟩ : ByteArray)]) ?_ 2 _ rfl; (with_reducible repeat (first | refine blk_drewN ?_ _ | refine blk_drew ?_ | refine blk_alloc ?_ _)); refine blk_put (cs := #[.string t437, .slice none 0 0, .bool false, .string (⟨#[]⟩ : ByteArray)]) ?_ 1 _ rfl; (with_reducible repeat (first | refine blk_drewN ?_ _ | refine blk_drew ?_ | refine blk_alloc ?_ _)); refine blk_put (cs := #[.string (⟨#[]⟩ : ByteArray), .slice none 0 0, .bool false, .string (⟨#[]⟩ : ByteArray)]) ?_ 0 _ rfl; (with_reducible repeat (first | refine blk_drewN ?_ _ | refine blk_drew ?_ | refine blk_alloc ?_ _)); exact BK443.out) hb); have n4_ := Aside0.mk (below_step (by repeat (first | (with_reducible first | exact HB.out | apply below_alloc | apply pw_below_drewN | apply below_drew1 | refine below_set ?_ GE436.out | refine below_set ?_ GE443.out) | exact HB.out)) hb); clear HO433; clear HO440; clear BK436; clear BK443; clear HB; have HO433 := n0_; have HO440 := n1_; have BK436 := n2_; have BK443 := n3_; have HB := n4_; clear n0_ n1_ n2_ n3_ n4_; (try clear hb); (try clear hb2); (try clear hk); (try clear hi); have hcz22_0 : w21.cell? ⟨gb443, 0, none⟩ = some (.string t437) := (blk_cell BK443.out 0).trans rfl; have hcz22_1 : w21.cell? ⟨gb443, 1, none⟩ = some (.slice Ao19 t438.length co19) := (blk_cell BK443.out 1).trans rfl; have hcz22_2 : w21.cell? ⟨gb443, 2, none⟩ = some (.bool t441) := (blk_cell BK443.out 2).trans rfl; have hcz22_3 : w21.cell? ⟨gb443, 3, none⟩ = some (.string t442) := (blk_cell BK443.out 3).trans rfl; have hfz22_0 := blk_frozen BK443.out 0; have hfz22_1 := blk_frozen BK443.out 1; have hfz22_2 := blk_frozen BK443.out 2; have hfz22_3 := blk_frozen BK443.out 3) | ((with_reducible refine gate_callee (f := 16) rfl ?_); refine goesL_ (some 24) rfl rfl Try.func16 (by kernel_rfl) rfl #[.agg #[.string t437, .slice Ao19 t438.length co19, .bool t441, .string t442]] rfl (by (try simp only [List.map_toArray, List.map_cons, List.map_nil]); first | done | rfl | (simp only [List.length_drop, List.length_take]; rfl)) ?_; (with_reducible refine (impl_AddrPath.calls kj2 t437 _ _ t438 t441 t442 t445 _ ?side1 ?side2 A9.out).mono ?_); (case side1 => repeat (first | exact (Kd.R_reads' HO440.out).2.2 | (with_reducible refine Kd.C_alloc ?_ _) | (with_reducible refine Kd.C_drewN ?_ _) | (with_reducible refine Kd.C_drew ?_))); (case side2 => exact (Kd.R_reads' HO440.out).2.1); rintro e w23 ⟨rfl, hb⟩; refine ⟨_, rfl, ?_⟩; have n0_ := Aside0.mk (Kd.R_below (by (with_reducible repeat (first | apply Kd.R_alloc | apply Kd.R_drewN | apply Kd.R_drew)); exact HO433.out) hb); have n1_ := Aside0.mk (Kd.R_below (by (with_reducible repeat (first | apply Kd.R_alloc | apply Kd.R_drewN | apply Kd.R_drew)); exact HO440.out) hb); have n2_ := Aside0.mk (blk_below (g := gb436) (o := .cells #[.string t430, .slice Ao14 t431.length co14, .bool t434, .string t435] 27 (0, 0)) (by (with_reducible repeat (first | refine blk_drewN ?_ _ | refine blk_drew ?_ | refine blk_alloc ?_ _)); exact BK436.out) hb); have n3_ := Aside0.mk (blk_below (g := gb443) (o := .cells #[.string t437, .slice Ao19 t438.length co19, .bool t441, .string t442] 27 (0, 0)) (by (with_reducible repeat (first | refine blk_drewN ?_ _ | refine blk_drew ?_ | refine blk_alloc ?_ _)); exact BK443.out) hb); have n4_ := Aside0.mk (below_step (by repeat (first | (with_reducible first | exact HB.out | apply below_alloc | apply pw_below_drewN | apply below_drew1 | refine below_set ?_ GE436.out | refine below_set ?_ GE443.out) | exact HB.out)) hb); clear HO433; clear HO440; clear BK436; clear BK443; clear HB; have HO433 := n0_; have HO440 := n1_; have BK436 := n2_; have BK443 := n3_; have HB := n4_; clear n0_ n1_ n2_ n3_ n4_; (try clear hb); (try clear hb2); (try clear hk); (try clear hi)))
    (try simp only [Act.put, List.setIfInBounds_toArray, List.set_cons_zero, List.set_cons_succ])
    go_cut [42] (fun v42 wc => ∃ (kq : Nat) (x42_9 : Bool), v42 = .bool x42_9 ∧ Aside0 (laws_FnAddrPathOne.j1 kq t444 t445 x42_9 t430 t431 t434 t435 t437 t438 t441 t442 = some r) ∧ Aside0 (kq ≤ kj2) ∧ Aside0 (Kd.R Kd.string 9 wc w.heap.size (fun k_ => some k_ ≠ ((.slice Ao19 t438.length co19) : Value).ownBlock) (.slice Ao14 t431.length co14) t431) ∧ Aside0 (Kd.R Kd.string 9 wc w.heap.size (fun k_ => some k_ ≠ ((.slice Ao14 t431.length co14) : Value).ownBlock) (.slice Ao19 t438.length co19) t438) ∧ Aside0 (wc.heap[gb436]? = some (.cells #[.string t430, (.slice Ao14 t431.length co14), .bool t434, .string t435] 27 (0, 0))) ∧ Aside0 (wc.heap[gb443]? = some (.cells #[.string t437, (.slice Ao19 t438.length co19), .bool t441, .string t442] 27 (0, 0))) ∧ Aside0 (Below w.heap.size w wc))
    case first =>
     have H := HC10.out
     clear HC10
     replace H := Option.bind_eq_some_iff.mp H
     obtain ⟨t446, A240, H⟩ := H
     replace H : (if t444.toList = t446.toList then ((spec_AddrPath.f kj2 t437 t438 t441 t442).bind fun t447 => (if t445.toList = t447.toList then (if t444.toList = ([] : List UInt8) then (laws_FnAddrPathOne.j1 kj2 t444 t445 true t430 t431 t434 t435 t437 t438 t441 t442) else (laws_FnAddrPathOne.j1 kj2 t444 t445 (t445.toList == ([] : List UInt8)) t430 t431 t434 t435 t437 t438 t441 t442)) else (laws_FnAddrPathOne.j1 kj2 t444 t445 true t430 t431 t434 t435 t437 t438 t441 t442))) else (laws_FnAddrPathOne.j1 kj2 t444 t445 true t430 t431 t434 t435 t437 t438 t441 t442)) = some r := H
     have A24 := Aside0.mk A240
     clear A240
     by_cases c25 : t444.toList = t446.toList
     ·rw [if_pos c25] at H
      have c25b0 : (t444.toList == t446.toList) = true := beq_iff_eq.mpr c25
      have c25b1 : (t444.toList != t446.toList) = false := bne_eq_false_iff_eq.mpr c25
      clear c25
      (first | rw [c25b0] | (simp only [i64_w, i32_w]; rw [c25b0]) | skip)
      replace H := Option.bind_eq_some_iff.mp H
      obtain ⟨t447, A260, H⟩ := H
      replace H : (if t445.toList = t447.toList then (if t444.toList = ([] : List UInt8) then (laws_FnAddrPathOne.j1 kj2 t444 t445 true t430 t431 t434 t435 t437 t438 t441 t442) else (laws_FnAddrPathOne.j1 kj2 t444 t445 (t445.toList == ([] : List UInt8)) t430 t431 t434 t435 t437 t438 t441 t442)) else (laws_FnAddrPathOne.j1 kj2 t444 t445 true t430 t431 t434 t435 t437 t438 t441 t442)) = some r := H
      have A26 := Aside0.mk A260
      clear A260
      by_cases c27 : t445.toList = t447.toList
      ·rw [if_pos c27] at H
       have c27b0 : (t445.toList == t447.toList) = true := beq_iff_eq.mpr c27
       have c27b1 : (t445.toList != t447.toList) = false := bne_eq_false_iff_eq.mpr c27
       clear c27
       by_cases c28 : t444.toList = ([] : List UInt8)
       ·rw [if_pos c28] at H
        (try (have c28b0 : t444.toList.isEmpty = true := by simpa using c28))
        have c28b1 : (t444.toList == ([] : List UInt8)) = true := beq_iff_eq.mpr c28
        have c28b2 : (t444.toList != ([] : List UInt8)) = false := bne_eq_false_iff_eq.mpr c28
        clear c28
        have H' := Aside0.mk H
        clear H
        have hnb29 := NB436_443.out
        have hnc29 := NB443_436.out
        have hcz30_0 : w23.cell? ⟨gb436, 0, none⟩ = some (.string t430) := (blk_cell BK436.out 0).trans rfl
        have hcz30_1 : w23.cell? ⟨gb436, 1, none⟩ = some (.slice Ao14 t431.length co14) := (blk_cell BK436.out 1).trans rfl
        have hcz30_2 : w23.cell? ⟨gb436, 2, none⟩ = some (.bool t434) := (blk_cell BK436.out 2).trans rfl
        have hcz30_3 : w23.cell? ⟨gb436, 3, none⟩ = some (.string t435) := (blk_cell BK436.out 3).trans rfl
        have hfz30_0 := blk_frozen BK436.out 0
        have hfz30_1 := blk_frozen BK436.out 1
        have hfz30_2 := blk_frozen BK436.out 2
        have hfz30_3 := blk_frozen BK436.out 3
        go_wp2_with (first | ((with_reducible refine gate_callee (f := 15) rfl ?_); refine goesL_ (some 27) rfl rfl Try.func15 (by kernel_rfl) rfl #[.agg #[.string t430, .slice Ao14 t431.length co14, .bool t434, .string t435]] rfl (by (try simp only [List.map_toArray, List.map_cons, List.map_nil]); first | done | rfl | (simp only [List.length_drop, List.length_take]; rfl)) ?_; (with_reducible refine (spec_AddrPath.calls kj2 t430 _ _ t431 t434 t435 t446 _ ?side1 ?side2 A24.out).mono ?_); (case side1 => repeat (first | exact (Kd.R_reads' HO433.out).2.2 | (with_reducible refine Kd.C_alloc ?_ _) | (with_reducible refine Kd.C_drewN ?_ _) | (with_reducible refine Kd.C_drew ?_))); (case side2 => exact (Kd.R_reads' HO433.out).2.1); rintro e w31 ⟨rfl, hb⟩; refine ⟨_, rfl, ?_⟩; have n0_ := Aside0.mk (Kd.R_below (by (with_reducible repeat (first | apply Kd.R_alloc | apply Kd.R_drewN | apply Kd.R_drew)); exact HO433.out) hb); have n1_ := Aside0.mk (Kd.R_below (by (with_reducible repeat (first | apply Kd.R_alloc | apply Kd.R_drewN | apply Kd.R_drew)); exact HO440.out) hb); have n2_ := Aside0.mk (blk_below (g := gb436) (o := .cells #[.string t430, .slice Ao14 t431.length co14, .bool t434, .string t435] 27 (0, 0)) (by (with_reducible repeat (first | refine blk_drewN ?_ _ | refine blk_drew ?_ | refine blk_alloc ?_ _)); exact BK436.out) hb); have n3_ := Aside0.mk (blk_below (g := gb443) (o := .cells #[.string t437, .slice Ao19 t438.length co19, .bool t441, .string t442] 27 (0, 0)) (by (with_reducible repeat (first | refine blk_drewN ?_ _ | refine blk_drew ?_ | refine blk_alloc ?_ _)); exact BK443.out) hb); have n4_ := Aside0.mk (below_step (by repeat (first | (with_reducible first | exact HB.out | apply below_alloc | apply pw_below_drewN | apply below_drew1 | refine below_set ?_ GE436.out | refine below_set ?_ GE443.out) | exact HB.out)) hb); clear HO433; clear HO440; clear BK436; clear BK443; clear HB; have HO433 := n0_; have HO440 := n1_; have BK436 := n2_; have BK443 := n3_; have HB := n4_; clear n0_ n1_ n2_ n3_ n4_; (try clear hb); (try clear hb2); (try clear hk); (try clear hi); have hcz32_0 : w31.cell? ⟨gb443, 0, none⟩ = some (.string t437) := (blk_cell BK443.out 0).trans rfl; have hcz32_1 : w31.cell? ⟨gb443, 1, none⟩ = some (.slice Ao19 t438.length co19) := (blk_cell BK443.out 1).trans rfl; have hcz32_2 : w31.cell? ⟨gb443, 2, none⟩ = some (.bool t441) := (blk_cell BK443.out 2).trans rfl; have hcz32_3 : w31.cell? ⟨gb443, 3, none⟩ = some (.string t442) := (blk_cell BK443.out 3).trans rfl; have hfz32_0 := blk_frozen BK443.out 0; have hfz32_1 := blk_frozen BK443.out 1; have hfz32_2 := blk_frozen BK443.out 2; have hfz32_3 := blk_frozen BK443.out 3) | (go_at_call 15; (with_reducible refine (spec_AddrPath.calls kj2 t437 _ _ t438 t441 t442 t447 _ ?side1 ?side2 A26.out).mono ?_); (case side1 => repeat (first | exact (Kd.R_reads' HO440.out).2.2 | (with_reducible refine Kd.C_alloc ?_ _) | (with_reducible refine Kd.C_drewN ?_ _) | (with_reducible refine Kd.C_drew ?_))); (case side2 => exact (Kd.R_reads' HO440.out).2.1); rintro e w33 ⟨rfl, hb⟩; have n0_ := Aside0.mk (Kd.R_below (by (with_reducible repeat (first | apply Kd.R_alloc | apply Kd.R_drewN | apply Kd.R_drew)); exact HO433.out) hb); have n1_ := Aside0.mk (Kd.R_below (by (with_reducible repeat (first | apply Kd.R_alloc | apply Kd.R_drewN | apply Kd.R_drew)); exact HO440.out) hb); have n2_ := Aside0.mk (blk_below (g := gb436) (o := .cells #[.string t430, .slice Ao14 t431.length co14, .bool t434, .string t435] 27 (0, 0)) (by (with_reducible repeat (first | refine blk_drewN ?_ _ | refine blk_drew ?_ | refine blk_alloc ?_ _)); exact BK436.out) hb); have n3_ := Aside0.mk (blk_below (g := gb443) (o := .cells #[.string t437, .slice Ao19 t438.length co19, .bool t441, .string t442] 27 (0, 0)) (by (with_reducible repeat (first | refine blk_drewN ?_ _ | refine blk_drew ?_ | refine blk_alloc ?_ _)); exact BK443.out) hb); have n4_ := Aside0.mk (below_step (by repeat (first | (with_reducible first | exact HB.out | apply below_alloc | apply pw_below_drewN | apply below_drew1 | refine below_set ?_ GE436.out | refine below_set ?_ GE443.out) | exact HB.out)) hb); clear HO433; clear HO440; clear BK436; clear BK443; clear HB; have HO433 := n0_; have HO440 := n1_; have BK436 := n2_; have BK443 := n3_; have HB := n4_; clear n0_ n1_ n2_ n3_ n4_; (try clear hb); (try clear hb2); (try clear hk); (try clear hi)))
        go_meet
        case rel => exact ⟨_, (true), (by first | rfl | (simp; done) | (simp only [i64_w, i32_w]; done) | (simp only [i64_w, i32_w]; rfl) | (simp [*]; done) | (simp [emp_bne, emp_beq]; done)), H', ⟨by have := HJ2.out; first | omega | exact Nat.le_refl _⟩, ⟨by (with_reducible repeat (first | apply Kd.R_alloc | apply Kd.R_drewN | apply Kd.R_drew)); exact Kd.R_mono HO433.out (fun _ hk => hk.2)⟩, ⟨by (with_reducible repeat (first | apply Kd.R_alloc | apply Kd.R_drewN | apply Kd.R_drew)); exact Kd.R_mono HO440.out (fun _ hk => hk.2)⟩, ⟨by (with_reducible repeat (first | refine blk_drewN ?_ _ | refine blk_drew ?_ | refine blk_alloc ?_ _)); exact BK436.out⟩, ⟨by (with_reducible repeat (first | refine blk_drewN ?_ _ | refine blk_drew ?_ | refine blk_alloc ?_ _)); exact BK443.out⟩, ⟨by repeat (first | (with_reducible first | exact HB.out | apply below_alloc | apply pw_below_drewN | apply below_drew1 | refine below_set ?_ GE436.out | refine below_set ?_ GE443.out) | exact HB.out)⟩⟩
       ·rw [if_neg c28] at H
        (try (have c28b0 : t444.toList.isEmpty = false := by simpa using c28))
        have c28b1 : (t444.toList == ([] : List UInt8)) = false := beq_eq_false_iff_ne.mpr c28
        have c28b2 : (t444.toList != ([] : List UInt8)) = true := bne_iff_ne.mpr c28
        have H' := Aside0.mk H
        clear H
        have hnb34 := NB436_443.out
        have hnc34 := NB443_436.out
        have hcz35_0 : w23.cell? ⟨gb436, 0, none⟩ = some (.string t430) := (blk_cell BK436.out 0).trans rfl
        have hcz35_1 : w23.cell? ⟨gb436, 1, none⟩ = some (.slice Ao14 t431.length co14) := (blk_cell BK436.out 1).trans rfl
        have hcz35_2 : w23.cell? ⟨gb436, 2, none⟩ = some (.bool t434) := (blk_cell BK436.out 2).trans rfl
        have hcz35_3 : w23.cell? ⟨gb436, 3, none⟩ = some (.string t435) := (blk_cell BK436.out 3).trans rfl
        have hfz35_0 := blk_frozen BK436.out 0
        have hfz35_1 := blk_frozen BK436.out 1
        have hfz35_2 := blk_frozen BK436.out 2
        have hfz35_3 := blk_frozen BK436.out 3
        go_wp2_with (first | ((with_reducible refine gate_callee (f := 15) rfl ?_); refine goesL_ (some 27) rfl rfl Try.func15 (by kernel_rfl) rfl #[.agg #[.string t430, .slice Ao14 t431.length co14, .bool t434, .string t435]] rfl (by (try simp only [List.map_toArray, List.map_cons, List.map_nil]); first | done | rfl | (simp only [List.length_drop, List.length_take]; rfl)) ?_; (with_reducible refine (spec_AddrPath.calls kj2 t430 _ _ t431 t434 t435 t446 _ ?side1 ?side2 A24.out).mono ?_); (case side1 => repeat (first | exact (Kd.R_reads' HO433.out).2.2 | (with_reducible refine Kd.C_alloc ?_ _) | (with_reducible refine Kd.C_drewN ?_ _) | (with_reducible refine Kd.C_drew ?_))); (case side2 => exact (Kd.R_reads' HO433.out).2.1); rintro e w36 ⟨rfl, hb⟩; refine ⟨_, rfl, ?_⟩; have n0_ := Aside0.mk (Kd.R_below (by (with_reducible repeat (first | apply Kd.R_alloc | apply Kd.R_drewN | apply Kd.R_drew)); exact HO433.out) hb); have n1_ := Aside0.mk (Kd.R_below (by (with_reducible repeat (first | apply Kd.R_alloc | apply Kd.R_drewN | apply Kd.R_drew)); exact HO440.out) hb); have n2_ := Aside0.mk (blk_below (g := gb436) (o := .cells #[.string t430, .slice Ao14 t431.length co14, .bool t434, .string t435] 27 (0, 0)) (by (with_reducible repeat (first | refine blk_drewN ?_ _ | refine blk_drew ?_ | refine blk_alloc ?_ _)); exact BK436.out) hb); have n3_ := Aside0.mk (blk_below (g := gb443) (o := .cells #[.string t437, .slice Ao19 t438.length co19, .bool t441, .string t442] 27 (0, 0)) (by (with_reducible repeat (first | refine blk_drewN ?_ _ | refine blk_drew ?_ | refine blk_alloc ?_ _)); exact BK443.out) hb); have n4_ := Aside0.mk (below_step (by repeat (first | (with_reducible first | exact HB.out | apply below_alloc | apply pw_below_drewN | apply below_drew1 | refine below_set ?_ GE436.out | refine below_set ?_ GE443.out) | exact HB.out)) hb); clear HO433; clear HO440; clear BK436; clear BK443; clear HB; have HO433 := n0_; have HO440 := n1_; have BK436 := n2_; have BK443 := n3_; have HB := n4_; clear n0_ n1_ n2_ n3_ n4_; (try clear hb); (try clear hb2); (try clear hk); (try clear hi); have hcz37_0 : w36.cell? ⟨gb443, 0, none⟩ = some (.string t437) := (blk_cell BK443.out 0).trans rfl; have hcz37_1 : w36.cell? ⟨gb443, 1, none⟩ = some (.slice Ao19 t438.length co19) := (blk_cell BK443.out 1).trans rfl; have hcz37_2 : w36.cell? ⟨gb443, 2, none⟩ = some (.bool t441) := (blk_cell BK443.out 2).trans rfl; have hcz37_3 : w36.cell? ⟨gb443, 3, none⟩ = some (.string t442) := (blk_cell BK443.out 3).trans rfl; have hfz37_0 := blk_frozen BK443.out 0; have hfz37_1 := blk_frozen BK443.out 1; have hfz37_2 := blk_frozen BK443.out 2; have hfz37_3 := blk_frozen BK443.out 3) | (go_at_call 15; (with_reducible refine (spec_AddrPath.calls kj2 t437 _ _ t438 t441 t442 t447 _ ?side1 ?side2 A26.out).mono ?_); (case side1 => repeat (first | exact (Kd.R_reads' HO440.out).2.2 | (with_reducible refine Kd.C_alloc ?_ _) | (with_reducible refine Kd.C_drewN ?_ _) | (with_reducible refine Kd.C_drew ?_))); (case side2 => exact (Kd.R_reads' HO440.out).2.1); rintro e w38 ⟨rfl, hb⟩; have n0_ := Aside0.mk (Kd.R_below (by (with_reducible repeat (first | apply Kd.R_alloc | apply Kd.R_drewN | apply Kd.R_drew)); exact HO433.out) hb); have n1_ := Aside0.mk (Kd.R_below (by (with_reducible repeat (first | apply Kd.R_alloc | apply Kd.R_drewN | apply Kd.R_drew)); exact HO440.out) hb); have n2_ := Aside0.mk (blk_below (g := gb436) (o := .cells #[.string t430, .slice Ao14 t431.length co14, .bool t434, .string t435] 27 (0, 0)) (by (with_reducible repeat (first | refine blk_drewN ?_ _ | refine blk_drew ?_ | refine blk_alloc ?_ _)); exact BK436.out) hb); have n3_ := Aside0.mk (blk_below (g := gb443) (o := .cells #[.string t437, .slice Ao19 t438.length co19, .bool t441, .string t442] 27 (0, 0)) (by (with_reducible repeat (first | refine blk_drewN ?_ _ | refine blk_drew ?_ | refine blk_alloc ?_ _)); exact BK443.out) hb); have n4_ := Aside0.mk (below_step (by repeat (first | (with_reducible first | exact HB.out | apply below_alloc | apply pw_below_drewN | apply below_drew1 | refine below_set ?_ GE436.out | refine below_set ?_ GE443.out) | exact HB.out)) hb); clear HO433; clear HO440; clear BK436; clear BK443; clear HB; have HO433 := n0_; have HO440 := n1_; have BK436 := n2_; have BK443 := n3_; have HB := n4_; clear n0_ n1_ n2_ n3_ n4_; (try clear hb); (try clear hb2); (try clear hk); (try clear hi)))
        go_meet
        case rel => exact ⟨_, ((t445.toList == ([] : List UInt8))), (by first | rfl | (simp; done) | (simp only [i64_w, i32_w]; done) | (simp only [i64_w, i32_w]; rfl) | (simp [*]; done) | (simp [emp_bne, emp_beq]; done)), H', ⟨by have := HJ2.out; first | omega | exact Nat.le_refl _⟩, ⟨by (with_reducible repeat (first | apply Kd.R_alloc | apply Kd.R_drewN | apply Kd.R_drew)); exact Kd.R_mono HO433.out (fun _ hk => hk.2)⟩, ⟨by (with_reducible repeat (first | apply Kd.R_alloc | apply Kd.R_drewN | apply Kd.R_drew)); exact Kd.R_mono HO440.out (fun _ hk => hk.2)⟩, ⟨by (with_reducible repeat (first | refine blk_drewN ?_ _ | refine blk_drew ?_ | refine blk_alloc ?_ _)); exact BK436.out⟩, ⟨by (with_reducible repeat (first | refine blk_drewN ?_ _ | refine blk_drew ?_ | refine blk_alloc ?_ _)); exact BK443.out⟩, ⟨by repeat (first | (with_reducible first | exact HB.out | apply below_alloc | apply pw_below_drewN | apply below_drew1 | refine below_set ?_ GE436.out | refine below_set ?_ GE443.out) | exact HB.out)⟩⟩
      ·rw [if_neg c27] at H
       have c27b0 : (t445.toList == t447.toList) = false := beq_eq_false_iff_ne.mpr c27
       have c27b1 : (t445.toList != t447.toList) = true := bne_iff_ne.mpr c27
       have H' := Aside0.mk H
       clear H
       have hnb39 := NB436_443.out
       have hnc39 := NB443_436.out
       have hcz40_0 : w23.cell? ⟨gb436, 0, none⟩ = some (.string t430) := (blk_cell BK436.out 0).trans rfl
       have hcz40_1 : w23.cell? ⟨gb436, 1, none⟩ = some (.slice Ao14 t431.length co14) := (blk_cell BK436.out 1).trans rfl
       have hcz40_2 : w23.cell? ⟨gb436, 2, none⟩ = some (.bool t434) := (blk_cell BK436.out 2).trans rfl
       have hcz40_3 : w23.cell? ⟨gb436, 3, none⟩ = some (.string t435) := (blk_cell BK436.out 3).trans rfl
       have hfz40_0 := blk_frozen BK436.out 0
       have hfz40_1 := blk_frozen BK436.out 1
       have hfz40_2 := blk_frozen BK436.out 2
       have hfz40_3 := blk_frozen BK436.out 3
       go_wp2_with (first | ((with_reducible refine gate_callee (f := 15) rfl ?_); refine goesL_ (some 27) rfl rfl Try.func15 (by kernel_rfl) rfl #[.agg #[.string t430, .slice Ao14 t431.length co14, .bool t434, .string t435]] rfl (by (try simp only [List.map_toArray, List.map_cons, List.map_nil]); first | done | rfl | (simp only [List.length_drop, List.length_take]; rfl)) ?_; (with_reducible refine (spec_AddrPath.calls kj2 t430 _ _ t431 t434 t435 t446 _ ?side1 ?side2 A24.out).mono ?_); (case side1 => repeat (first | exact (Kd.R_reads' HO433.out).2.2 | (with_reducible refine Kd.C_alloc ?_ _) | (with_reducible refine Kd.C_drewN ?_ _) | (with_reducible refine Kd.C_drew ?_))); (case side2 => exact (Kd.R_reads' HO433.out).2.1); rintro e w41 ⟨rfl, hb⟩; refine ⟨_, rfl, ?_⟩; have n0_ := Aside0.mk (Kd.R_below (by (with_reducible repeat (first | apply Kd.R_alloc | apply Kd.R_drewN | apply Kd.R_drew)); exact HO433.out) hb); have n1_ := Aside0.mk (Kd.R_below (by (with_reducible repeat (first | apply Kd.R_alloc | apply Kd.R_drewN | apply Kd.R_drew)); exact HO440.out) hb); have n2_ := Aside0.mk (blk_below (g := gb436) (o := .cells #[.string t430, .slice Ao14 t431.length co14, .bool t434, .string t435] 27 (0, 0)) (by (with_reducible repeat (first | refine blk_drewN ?_ _ | refine blk_drew ?_ | refine blk_alloc ?_ _)); exact BK436.out) hb); have n3_ := Aside0.mk (blk_below (g := gb443) (o := .cells #[.string t437, .slice Ao19 t438.length co19, .bool t441, .string t442] 27 (0, 0)) (by (with_reducible repeat (first | refine blk_drewN ?_ _ | refine blk_drew ?_ | refine blk_alloc ?_ _)); exact BK443.out) hb); have n4_ := Aside0.mk (below_step (by repeat (first | (with_reducible first | exact HB.out | apply below_alloc | apply pw_below_drewN | apply below_drew1 | refine below_set ?_ GE436.out | refine below_set ?_ GE443.out) | exact HB.out)) hb); clear HO433; clear HO440; clear BK436; clear BK443; clear HB; have HO433 := n0_; have HO440 := n1_; have BK436 := n2_; have BK443 := n3_; have HB := n4_; clear n0_ n1_ n2_ n3_ n4_; (try clear hb); (try clear hb2); (try clear hk); (try clear hi); have hcz42_0 : w41.cell? ⟨gb443, 0, none⟩ = some (.string t437) := (blk_cell BK443.out 0).trans rfl; have hcz42_1 : w41.cell? ⟨gb443, 1, none⟩ = some (.slice Ao19 t438.length co19) := (blk_cell BK443.out 1).trans rfl; have hcz42_2 : w41.cell? ⟨gb443, 2, none⟩ = some (.bool t441) := (blk_cell BK443.out 2).trans rfl; have hcz42_3 : w41.cell? ⟨gb443, 3, none⟩ = some (.string t442) := (blk_cell BK443.out 3).trans rfl; have hfz42_0 := blk_frozen BK443.out 0; have hfz42_1 := blk_frozen BK443.out 1; have hfz42_2 := blk_frozen BK443.out 2; have hfz42_3 := blk_frozen BK443.out 3) | (go_at_call 15; (with_reducible refine (spec_AddrPath.calls kj2 t437 _ _ t438 t441 t442 t447 _ ?side1 ?side2 A26.out).mono ?_); (case side1 => repeat (first | exact (Kd.R_reads' HO440.out).2.2 | (with_reducible refine Kd.C_alloc ?_ _) | (with_reducible refine Kd.C_drewN ?_ _) | (with_reducible refine Kd.C_drew ?_))); (case side2 => exact (Kd.R_reads' HO440.out).2.1); rintro e w43 ⟨rfl, hb⟩; have n0_ := Aside0.mk (Kd.R_below (by (with_reducible repeat (first | apply Kd.R_alloc | apply Kd.R_drewN | apply Kd.R_drew)); exact HO433.out) hb); have n1_ := Aside0.mk (Kd.R_below (by (with_reducible repeat (first | apply Kd.R_alloc | apply Kd.R_drewN | apply Kd.R_drew)); exact HO440.out) hb); have n2_ := Aside0.mk (blk_below (g := gb436) (o := .cells #[.string t430, .slice Ao14 t431.length co14, .bool t434, .string t435] 27 (0, 0)) (by (with_reducible repeat (first | refine blk_drewN ?_ _ | refine blk_drew ?_ | refine blk_alloc ?_ _)); exact BK436.out) hb); have n3_ := Aside0.mk (blk_below (g := gb443) (o := .cells #[.string t437, .slice Ao19 t438.length co19, .bool t441, .string t442] 27 (0, 0)) (by (with_reducible repeat (first | refine blk_drewN ?_ _ | refine blk_drew ?_ | refine blk_alloc ?_ _)); exact BK443.out) hb); have n4_ := Aside0.mk (below_step (by repeat (first | (with_reducible first | exact HB.out | apply below_alloc | apply pw_below_drewN | apply below_drew1 | refine below_set ?_ GE436.out | refine below_set ?_ GE443.out) | exact HB.out)) hb); clear HO433; clear HO440; clear BK436; clear BK443; clear HB; have HO433 := n0_; have HO440 := n1_; have BK436 := n2_; have BK443 := n3_; have HB := n4_; clear n0_ n1_ n2_ n3_ n4_; (try clear hb); (try clear hb2); (try clear hk); (try clear hi)))
       go_meet
       case rel => exact ⟨_, (true), (by first | rfl | (simp; done) | (simp only [i64_w, i32_w]; done) | (simp only [i64_w, i32_w]; rfl) | (simp [*]; done) | (simp [emp_bne, emp_beq]; done)), H', ⟨by have := HJ2.out; first | omega | exact Nat.le_refl _⟩, ⟨by (with_reducible repeat (first | apply Kd.R_alloc | apply Kd.R_drewN | apply Kd.R_drew)); exact Kd.R_mono HO433.out (fun _ hk => hk.2)⟩, ⟨by (with_reducible repeat (first | apply Kd.R_alloc | apply Kd.R_drewN | apply Kd.R_drew)); exact Kd.R_mono HO440.out (fun _ hk => hk.2)⟩, ⟨by (with_reducible repeat (first | refine blk_drewN ?_ _ | refine blk_drew ?_ | refine blk_alloc ?_ _)); exact BK436.out⟩, ⟨by (with_reducible repeat (first | refine blk_drewN ?_ _ | refine blk_drew ?_ | refine blk_alloc ?_ _)); exact BK443.out⟩, ⟨by repeat (first | (with_reducible first | exact HB.out | apply below_alloc | apply pw_below_drewN | apply below_drew1 | refine below_set ?_ GE436.out | refine below_set ?_ GE443.out) | exact HB.out)⟩⟩
     ·rw [if_neg c25] at H
      have c25b0 : (t444.toList == t446.toList) = false := beq_eq_false_iff_ne.mpr c25
      have c25b1 : (t444.toList != t446.toList) = true := bne_iff_ne.mpr c25
      (first | rw [c25b0] | (simp only [i64_w, i32_w]; rw [c25b0]) | skip)
      have H' := Aside0.mk H
      clear H
      have hnb44 := NB436_443.out
      have hnc44 := NB443_436.out
      have hcz45_0 : w23.cell? ⟨gb436, 0, none⟩ = some (.string t430) := (blk_cell BK436.out 0).trans rfl
      have hcz45_1 : w23.cell? ⟨gb436, 1, none⟩ = some (.slice Ao14 t431.length co14) := (blk_cell BK436.out 1).trans rfl
      have hcz45_2 : w23.cell? ⟨gb436, 2, none⟩ = some (.bool t434) := (blk_cell BK436.out 2).trans rfl
      have hcz45_3 : w23.cell? ⟨gb436, 3, none⟩ = some (.string t435) := (blk_cell BK436.out 3).trans rfl
      have hfz45_0 := blk_frozen BK436.out 0
      have hfz45_1 := blk_frozen BK436.out 1
      have hfz45_2 := blk_frozen BK436.out 2
      have hfz45_3 := blk_frozen BK436.out 3
      go_wp2_with (first | ((with_reducible refine gate_callee (f := 15) rfl ?_); refine goesL_ (some 27) rfl rfl Try.func15 (by kernel_rfl) rfl #[.agg #[.string t430, .slice Ao14 t431.length co14, .bool t434, .string t435]] rfl (by (try simp only [List.map_toArray, List.map_cons, List.map_nil]); first | done | rfl | (simp only [List.length_drop, List.length_take]; rfl)) ?_; (with_reducible refine (spec_AddrPath.calls kj2 t430 _ _ t431 t434 t435 t446 _ ?side1 ?side2 A24.out).mono ?_); (case side1 => repeat (first | exact (Kd.R_reads' HO433.out).2.2 | (with_reducible refine Kd.C_alloc ?_ _) | (with_reducible refine Kd.C_drewN ?_ _) | (with_reducible refine Kd.C_drew ?_))); (case side2 => exact (Kd.R_reads' HO433.out).2.1); rintro e w46 ⟨rfl, hb⟩; refine ⟨_, rfl, ?_⟩; have n0_ := Aside0.mk (Kd.R_below (by (with_reducible repeat (first | apply Kd.R_alloc | apply Kd.R_drewN | apply Kd.R_drew)); exact HO433.out) hb); have n1_ := Aside0.mk (Kd.R_below (by (with_reducible repeat (first | apply Kd.R_alloc | apply Kd.R_drewN | apply Kd.R_drew)); exact HO440.out) hb); have n2_ := Aside0.mk (blk_below (g := gb436) (o := .cells #[.string t430, .slice Ao14 t431.length co14, .bool t434, .string t435] 27 (0, 0)) (by (with_reducible repeat (first | refine blk_drewN ?_ _ | refine blk_drew ?_ | refine blk_alloc ?_ _)); exact BK436.out) hb); have n3_ := Aside0.mk (blk_below (g := gb443) (o := .cells #[.string t437, .slice Ao19 t438.length co19, .bool t441, .string t442] 27 (0, 0)) (by (with_reducible repeat (first | refine blk_drewN ?_ _ | refine blk_drew ?_ | refine blk_alloc ?_ _)); exact BK443.out) hb); have n4_ := Aside0.mk (below_step (by repeat (first | (with_reducible first | exact HB.out | apply below_alloc | apply pw_below_drewN | apply below_drew1 | refine below_set ?_ GE436.out | refine below_set ?_ GE443.out) | exact HB.out)) hb); clear HO433; clear HO440; clear BK436; clear BK443; clear HB; have HO433 := n0_; have HO440 := n1_; have BK436 := n2_; have BK443 := n3_; have HB := n4_; clear n0_ n1_ n2_ n3_ n4_; (try clear hb); (try clear hb2); (try clear hk); (try clear hi)))
      go_meet
      case rel => exact ⟨_, (true), (by first | rfl | (simp; done) | (simp only [i64_w, i32_w]; done) | (simp only [i64_w, i32_w]; rfl) | (simp [*]; done) | (simp [emp_bne, emp_beq]; done)), H', ⟨by have := HJ2.out; first | omega | exact Nat.le_refl _⟩, ⟨by (with_reducible repeat (first | apply Kd.R_alloc | apply Kd.R_drewN | apply Kd.R_drew)); exact Kd.R_mono HO433.out (fun _ hk => hk.2)⟩, ⟨by (with_reducible repeat (first | apply Kd.R_alloc | apply Kd.R_drewN | apply Kd.R_drew)); exact Kd.R_mono HO440.out (fun _ hk => hk.2)⟩, ⟨by (with_reducible repeat (first | refine blk_drewN ?_ _ | refine blk_drew ?_ | refine blk_alloc ?_ _)); exact BK436.out⟩, ⟨by (with_reducible repeat (first | refine blk_drewN ?_ _ | refine blk_drew ?_ | refine blk_alloc ?_ _)); exact BK443.out⟩, ⟨by repeat (first | (with_reducible first | exact HB.out | apply below_alloc | apply pw_below_drewN | apply below_drew1 | refine below_set ?_ GE436.out | refine below_set ?_ GE443.out) | exact HB.out)⟩⟩
    case rest =>
     clear HC10
     try clear c1
     try clear c2
     try clear p2
     try clear c3
     try clear c4
     try clear c4b0
     try clear c4b1
     try clear c5
     try clear c8
     try clear c15
     try clear c16
     try clear c17
     try clear c19
     try clear c25
     try clear c25b0
     try clear c25b1
     try clear c27
     try clear c27b0
     try clear c27b1
     try clear c28
     try clear c28b0
     try clear c28b1
     try clear c28b2
     try clear c29
     try clear c34
     try clear c39
     try clear c44
     try clear hcz13_0
     try clear hcz13_1
     try clear hcz13_2
     try clear hcz13_3
     try clear hcz18_0
     try clear hcz18_1
     try clear hcz18_2
     try clear hcz18_3
     try clear hcz20_0
     try clear hcz20_1
     try clear hcz20_2
     try clear hcz20_3
     try clear hcz22_0
     try clear hcz22_1
     try clear hcz22_2
     try clear hcz22_3
     try clear hcz30_0
     try clear hcz30_1
     try clear hcz30_2
     try clear hcz30_3
     try clear hcz32_0
     try clear hcz32_1
     try clear hcz32_2
     try clear hcz32_3
     try clear hcz35_0
     try clear hcz35_1
     try clear hcz35_2
     try clear hcz35_3
     try clear hcz37_0
     try clear hcz37_1
     try clear hcz37_2
     try clear hcz37_3
     try clear hcz40_0
     try clear hcz40_1
     try clear hcz40_2
     try clear hcz40_3
     try clear hcz42_0
     try clear hcz42_1
     try clear hcz42_2
     try clear hcz42_3
     try clear hcz45_0
     try clear hcz45_1
     try clear hcz45_2
     try clear hcz45_3
     try clear hfz13_0
     try clear hfz13_1
     try clear hfz13_2
     try clear hfz13_3
     try clear hfz18_0
     try clear hfz18_1
     try clear hfz18_2
     try clear hfz18_3
     try clear hfz20_0
     try clear hfz20_1
     try clear hfz20_2
     try clear hfz20_3
     try clear hfz22_0
     try clear hfz22_1
     try clear hfz22_2
     try clear hfz22_3
     try clear hfz30_0
     try clear hfz30_1
     try clear hfz30_2
     try clear hfz30_3
     try clear hfz32_0
     try clear hfz32_1
     try clear hfz32_2
     try clear hfz32_3
     try clear hfz35_0
     try clear hfz35_1
     try clear hfz35_2
     try clear hfz35_3
     try clear hfz37_0
     try clear hfz37_1
     try clear hfz37_2
     try clear hfz37_3
     try clear hfz40_0
     try clear hfz40_1
     try clear hfz40_2
     try clear hfz40_3
     try clear hfz42_0
     try clear hfz42_1
     try clear hfz42_2
     try clear hfz42_3
     try clear hfz45_0
     try clear hfz45_1
     try clear hfz45_2
     try clear hfz45_3
     try clear p2
     obtain ⟨kq, x42_9, rfl, HA, HJ9, HO_437001, HO_444001, BK436, BK443, HB⟩ := hcut
     cases kq with
     | zero => exact absurd HA.out (by simp [laws_FnAddrPathOne.j1])
     | succ kj9 =>
      have H := HA.out
      clear HA
      simp only [laws_FnAddrPathOne.j1] at H
      by_cases c47 : x42_9 = true
      ·subst c47
       have H1 : ((spec_AddrPath.f kj9 t430 t431 t434 t435).bind fun t448 => (if t444.toList = t448.toList then ((spec_AddrPath.f kj9 t437 t438 t441 t442).bind fun t449 => (some (t445.toList == t449.toList))) else (some false))) = some r := by rw [if_pos rfl] at H; exact H
       clear H
       have H := H1
       clear H1
       replace H := Option.bind_eq_some_iff.mp H
       obtain ⟨t448, A480, H⟩ := H
       replace H : (if t444.toList = t448.toList then ((spec_AddrPath.f kj9 t437 t438 t441 t442).bind fun t449 => (some (t445.toList == t449.toList))) else (some false)) = some r := H
       have A48 := Aside0.mk A480
       clear A480
       by_cases c49 : t444.toList = t448.toList
       ·rw [if_pos c49] at H
        have c49b0 : (t444.toList == t448.toList) = true := beq_iff_eq.mpr c49
        have c49b1 : (t444.toList != t448.toList) = false := bne_eq_false_iff_eq.mpr c49
        clear c49
        replace H := Option.bind_eq_some_iff.mp H
        obtain ⟨t449, A500, H⟩ := H
        replace H : (some (t445.toList == t449.toList)) = some r := H
        have A50 := Aside0.mk A500
        clear A500
        obtain rfl := Option.some.inj H
        have hnb51 := NB436_443.out
        have hnc51 := NB443_436.out
        have hcz52_0 : wc.cell? ⟨gb436, 0, none⟩ = some (.string t430) := (blk_cell BK436.out 0).trans rfl
        have hcz52_1 : wc.cell? ⟨gb436, 1, none⟩ = some (.slice Ao14 t431.length co14) := (blk_cell BK436.out 1).trans rfl
        have hcz52_2 : wc.cell? ⟨gb436, 2, none⟩ = some (.bool t434) := (blk_cell BK436.out 2).trans rfl
        have hcz52_3 : wc.cell? ⟨gb436, 3, none⟩ = some (.string t435) := (blk_cell BK436.out 3).trans rfl
        have hfz52_0 := blk_frozen BK436.out 0
        have hfz52_1 := blk_frozen BK436.out 1
        have hfz52_2 := blk_frozen BK436.out 2
        have hfz52_3 := blk_frozen BK436.out 3
        go_wp2_with (first | ((with_reducible refine gate_callee (f := 15) rfl ?_); refine goesL_ (some 45) rfl rfl Try.func15 (by kernel_rfl) rfl #[.agg #[.string t430, .slice Ao14 t431.length co14, .bool t434, .string t435]] rfl (by (try simp only [List.map_toArray, List.map_cons, List.map_nil]); first | done | rfl | (simp only [List.length_drop, List.length_take]; rfl)) ?_; (with_reducible refine (spec_AddrPath.calls kj9 t430 _ _ t431 t434 t435 t448 _ ?side1 ?side2 A48.out).mono ?_); (case side1 => repeat (first | exact (Kd.R_reads' HO_437001.out).2.2 | (with_reducible refine Kd.C_alloc ?_ _) | (with_reducible refine Kd.C_drewN ?_ _) | (with_reducible refine Kd.C_drew ?_))); (case side2 => exact (Kd.R_reads' HO_437001.out).2.1); rintro e w53 ⟨rfl, hb⟩; refine ⟨_, rfl, ?_⟩; have n0_ := Aside0.mk (Kd.R_below (by (with_reducible repeat (first | apply Kd.R_alloc | apply Kd.R_drewN | apply Kd.R_drew)); exact HO_437001.out) hb); have n1_ := Aside0.mk (Kd.R_below (by (with_reducible repeat (first | apply Kd.R_alloc | apply Kd.R_drewN | apply Kd.R_drew)); exact HO_444001.out) hb); have n2_ := Aside0.mk (blk_below (g := gb436) (o := .cells #[.string t430, .slice Ao14 t431.length co14, .bool t434, .string t435] 27 (0, 0)) (by (with_reducible repeat (first | refine blk_drewN ?_ _ | refine blk_drew ?_ | refine blk_alloc ?_ _)); exact BK436.out) hb); have n3_ := Aside0.mk (blk_below (g := gb443) (o := .cells #[.string t437, .slice Ao19 t438.length co19, .bool t441, .string t442] 27 (0, 0)) (by (with_reducible repeat (first | refine blk_drewN ?_ _ | refine blk_drew ?_ | refine blk_alloc ?_ _)); exact BK443.out) hb); have n4_ := Aside0.mk (below_step (by repeat (first | (with_reducible first | exact HB.out | apply below_alloc | apply pw_below_drewN | apply below_drew1 | refine below_set ?_ GE436.out | refine below_set ?_ GE443.out) | exact HB.out)) hb); clear HO_437001; clear HO_444001; clear BK436; clear BK443; clear HB; have HO_437001 := n0_; have HO_444001 := n1_; have BK436 := n2_; have BK443 := n3_; have HB := n4_; clear n0_ n1_ n2_ n3_ n4_; (try clear hb); (try clear hb2); (try clear hk); (try clear hi); have hcz54_0 : w53.cell? ⟨gb443, 0, none⟩ = some (.string t437) := (blk_cell BK443.out 0).trans rfl; have hcz54_1 : w53.cell? ⟨gb443, 1, none⟩ = some (.slice Ao19 t438.length co19) := (blk_cell BK443.out 1).trans rfl; have hcz54_2 : w53.cell? ⟨gb443, 2, none⟩ = some (.bool t441) := (blk_cell BK443.out 2).trans rfl; have hcz54_3 : w53.cell? ⟨gb443, 3, none⟩ = some (.string t442) := (blk_cell BK443.out 3).trans rfl; have hfz54_0 := blk_frozen BK443.out 0; have hfz54_1 := blk_frozen BK443.out 1; have hfz54_2 := blk_frozen BK443.out 2; have hfz54_3 := blk_frozen BK443.out 3) | (go_at_call 15; (with_reducible refine (spec_AddrPath.calls kj9 t437 _ _ t438 t441 t442 t449 _ ?side1 ?side2 A50.out).mono ?_); (case side1 => repeat (first | exact (Kd.R_reads' HO_444001.out).2.2 | (with_reducible refine Kd.C_alloc ?_ _) | (with_reducible refine Kd.C_drewN ?_ _) | (with_reducible refine Kd.C_drew ?_))); (case side2 => exact (Kd.R_reads' HO_444001.out).2.1); rintro e w55 ⟨rfl, hb⟩; have n0_ := Aside0.mk (Kd.R_below (by (with_reducible repeat (first | apply Kd.R_alloc | apply Kd.R_drewN | apply Kd.R_drew)); exact HO_437001.out) hb); have n1_ := Aside0.mk (Kd.R_below (by (with_reducible repeat (first | apply Kd.R_alloc | apply Kd.R_drewN | apply Kd.R_drew)); exact HO_444001.out) hb); have n2_ := Aside0.mk (blk_below (g := gb436) (o := .cells #[.string t430, .slice Ao14 t431.length co14, .bool t434, .string t435] 27 (0, 0)) (by (with_reducible repeat (first | refine blk_drewN ?_ _ | refine blk_drew ?_ | refine blk_alloc ?_ _)); exact BK436.out) hb); have n3_ := Aside0.mk (blk_below (g := gb443) (o := .cells #[.string t437, .slice Ao19 t438.length co19, .bool t441, .string t442] 27 (0, 0)) (by (with_reducible repeat (first | refine blk_drewN ?_ _ | refine blk_drew ?_ | refine blk_alloc ?_ _)); exact BK443.out) hb); have n4_ := Aside0.mk (below_step (by repeat (first | (with_reducible first | exact HB.out | apply below_alloc | apply pw_below_drewN | apply below_drew1 | refine below_set ?_ GE436.out | refine below_set ?_ GE443.out) | exact HB.out)) hb); clear HO_437001; clear HO_444001; clear BK436; clear BK443; clear HB; have HO_437001 := n0_; have HO_444001 := n1_; have BK436 := n2_; have BK443 := n3_; have HB := n4_; clear n0_ n1_ n2_ n3_ n4_; (try clear hb); (try clear hb2); (try clear hk); (try clear hi)))
        go_ret
        exact ⟨by first | rfl | (simp <;> rfl) | (simp [*] <;> rfl), by repeat (first | (with_reducible first | exact HB.out | apply below_alloc | apply pw_below_drewN | apply below_drew1 | refine below_set ?_ GE436.out | refine below_set ?_ GE443.out) | exact HB.out)⟩
       ·rw [if_neg c49] at H
        have c49b0 : (t444.toList == t448.toList) = false := beq_eq_false_iff_ne.mpr c49
        have c49b1 : (t444.toList != t448.toList) = true := bne_iff_ne.mpr c49
        obtain rfl := Option.some.inj H
        have hnb56 := NB436_443.out
        have hnc56 := NB443_436.out
        have hcz57_0 : wc.cell? ⟨gb436, 0, none⟩ = some (.string t430) := (blk_cell BK436.out 0).trans rfl
        have hcz57_1 : wc.cell? ⟨gb436, 1, none⟩ = some (.slice Ao14 t431.length co14) := (blk_cell BK436.out 1).trans rfl
        have hcz57_2 : wc.cell? ⟨gb436, 2, none⟩ = some (.bool t434) := (blk_cell BK436.out 2).trans rfl
        have hcz57_3 : wc.cell? ⟨gb436, 3, none⟩ = some (.string t435) := (blk_cell BK436.out 3).trans rfl
        have hfz57_0 := blk_frozen BK436.out 0
        have hfz57_1 := blk_frozen BK436.out 1
        have hfz57_2 := blk_frozen BK436.out 2
        have hfz57_3 := blk_frozen BK436.out 3
        go_wp2_with (first | ((with_reducible refine gate_callee (f := 15) rfl ?_); refine goesL_ (some 45) rfl rfl Try.func15 (by kernel_rfl) rfl #[.agg #[.string t430, .slice Ao14 t431.length co14, .bool t434, .string t435]] rfl (by (try simp only [List.map_toArray, List.map_cons, List.map_nil]); first | done | rfl | (simp only [List.length_drop, List.length_take]; rfl)) ?_; (with_reducible refine (spec_AddrPath.calls kj9 t430 _ _ t431 t434 t435 t448 _ ?side1 ?side2 A48.out).mono ?_); (case side1 => repeat (first | exact (Kd.R_reads' HO_437001.out).2.2 | (with_reducible refine Kd.C_alloc ?_ _) | (with_reducible refine Kd.C_drewN ?_ _) | (with_reducible refine Kd.C_drew ?_))); (case side2 => exact (Kd.R_reads' HO_437001.out).2.1); rintro e w58 ⟨rfl, hb⟩; refine ⟨_, rfl, ?_⟩; have n0_ := Aside0.mk (Kd.R_below (by (with_reducible repeat (first | apply Kd.R_alloc | apply Kd.R_drewN | apply Kd.R_drew)); exact HO_437001.out) hb); have n1_ := Aside0.mk (Kd.R_below (by (with_reducible repeat (first | apply Kd.R_alloc | apply Kd.R_drewN | apply Kd.R_drew)); exact HO_444001.out) hb); have n2_ := Aside0.mk (blk_below (g := gb436) (o := .cells #[.string t430, .slice Ao14 t431.length co14, .bool t434, .string t435] 27 (0, 0)) (by (with_reducible repeat (first | refine blk_drewN ?_ _ | refine blk_drew ?_ | refine blk_alloc ?_ _)); exact BK436.out) hb); have n3_ := Aside0.mk (blk_below (g := gb443) (o := .cells #[.string t437, .slice Ao19 t438.length co19, .bool t441, .string t442] 27 (0, 0)) (by (with_reducible repeat (first | refine blk_drewN ?_ _ | refine blk_drew ?_ | refine blk_alloc ?_ _)); exact BK443.out) hb); have n4_ := Aside0.mk (below_step (by repeat (first | (with_reducible first | exact HB.out | apply below_alloc | apply pw_below_drewN | apply below_drew1 | refine below_set ?_ GE436.out | refine below_set ?_ GE443.out) | exact HB.out)) hb); clear HO_437001; clear HO_444001; clear BK436; clear BK443; clear HB; have HO_437001 := n0_; have HO_444001 := n1_; have BK436 := n2_; have BK443 := n3_; have HB := n4_; clear n0_ n1_ n2_ n3_ n4_; (try clear hb); (try clear hb2); (try clear hk); (try clear hi)))
        go_ret
        exact ⟨by first | rfl | (simp <;> rfl) | (simp [*] <;> rfl), by repeat (first | (with_reducible first | exact HB.out | apply below_alloc | apply pw_below_drewN | apply below_drew1 | refine below_set ?_ GE436.out | refine below_set ?_ GE443.out) | exact HB.out)⟩
      ·replace c47 := Bool.eq_false_iff.mpr c47
       subst c47
       have H1 : ((laws_lpAddr.f kj9 t430 t431 t434 t435 t430 t438 t441 t442).bind fun t450 => (some ((t444.toList == t445.toList) == t450))) = some r := by rw [if_neg (show ¬ (false = true) by decide)] at H; exact H
       clear H
       have H := H1
       clear H1
       replace H := Option.bind_eq_some_iff.mp H
       obtain ⟨t450, A590, H⟩ := H
       replace H : (some ((t444.toList == t445.toList) == t450)) = some r := H
       have A59 := Aside0.mk A590
       clear A590
       obtain rfl := Option.some.inj H
       have hnb60 := NB436_443.out
       have hnc60 := NB443_436.out
       have hcz61_0 : wc.cell? ⟨gb436, 0, none⟩ = some (.string t430) := (blk_cell BK436.out 0).trans rfl
       have hcz61_1 : wc.cell? ⟨gb436, 1, none⟩ = some (.slice Ao14 t431.length co14) := (blk_cell BK436.out 1).trans rfl
       have hcz61_2 : wc.cell? ⟨gb436, 2, none⟩ = some (.bool t434) := (blk_cell BK436.out 2).trans rfl
       have hcz61_3 : wc.cell? ⟨gb436, 3, none⟩ = some (.string t435) := (blk_cell BK436.out 3).trans rfl
       have hfz61_0 := blk_frozen BK436.out 0
       have hfz61_1 := blk_frozen BK436.out 1
       have hfz61_2 := blk_frozen BK436.out 2
       have hfz61_3 := blk_frozen BK436.out 3
       have hcz62_0 : wc.cell? ⟨gb443, 0, none⟩ = some (.string t437) := (blk_cell BK443.out 0).trans rfl
       have hcz62_1 : wc.cell? ⟨gb443, 1, none⟩ = some (.slice Ao19 t438.length co19) := (blk_cell BK443.out 1).trans rfl
       have hcz62_2 : wc.cell? ⟨gb443, 2, none⟩ = some (.bool t441) := (blk_cell BK443.out 2).trans rfl
       have hcz62_3 : wc.cell? ⟨gb443, 3, none⟩ = some (.string t442) := (blk_cell BK443.out 3).trans rfl
       have hfz62_0 := blk_frozen BK443.out 0
       have hfz62_1 := blk_frozen BK443.out 1
       have hfz62_2 := blk_frozen BK443.out 2
       have hfz62_3 := blk_frozen BK443.out 3
       go_wp2_with (first | ((with_reducible refine gate_callee (f := 21) rfl ?_); refine goesL_ (some 61) rfl rfl Try.func21 (by kernel_rfl) rfl #[.agg #[.string t430, .slice Ao14 t431.length co14, .bool t434, .string t435], .agg #[.string t430, .slice Ao19 t438.length co19, .bool t441, .string t442]] rfl (by (try simp only [List.map_toArray, List.map_cons, List.map_nil]); first | done | rfl | (simp only [List.length_drop, List.length_take]; rfl)) ?_; (with_reducible refine (laws_lpAddr.calls kj9 t430 _ _ t431 t434 t435 t430 _ _ t438 t441 t442 t450 _ ?side1 ?side2 ?side3 ?side4 A59.out).mono ?_); (case side1 => refine (Kd.R_reads' (e := 9) (base := w.heap.size) (ok := fun k_ => some k_ ≠ (.slice Ao19 t438.length co19 : Value).ownBlock) (n := t431.length) (c := co14) ?_).2.2; exact (by (with_reducible repeat (first | apply Kd.R_alloc | apply Kd.R_drewN | apply Kd.R_drew)); exact (Kd.R_mono (Kd.R_far (p := ⟨gb443, 0, none⟩) (Kd.R_types HO_437001.out BK443.out (by decide)) (fun _ hk => hk.2) (.string t430)) (fun _ h_ => h_.1)))); (case side2 => exact (Kd.R_reads' HO_437001.out).2.1); (case side3 => refine (Kd.R_reads' (e := 9) (base := w.heap.size) (ok := fun k_ => some k_ ≠ (.slice Ao14 t431.length co14 : Value).ownBlock) (n := t438.length) (c := co19) ?_).2.2; exact (by (with_reducible repeat (first | apply Kd.R_alloc | apply Kd.R_drewN | apply Kd.R_drew)); exact (Kd.R_mono (Kd.R_far (p := ⟨gb443, 0, none⟩) (Kd.R_types HO_444001.out BK443.out (by decide)) (fun _ hk => hk.2) (.string t430)) (fun _ h_ => h_.1)))); (case side4 => exact (Kd.R_reads' HO_444001.out).2.1); rintro e w63 ⟨rfl, hb⟩; refine ⟨_, rfl, ?_⟩; have n0_ := Aside0.mk (Kd.R_below (by (with_reducible repeat (first | apply Kd.R_alloc | apply Kd.R_drewN | apply Kd.R_drew)); exact (Kd.R_mono (Kd.R_far (p := ⟨gb443, 0, none⟩) (Kd.R_types HO_437001.out BK443.out (by decide)) (fun _ hk => hk.2) (.string t430)) (fun _ h_ => h_.1))) hb); have n1_ := Aside0.mk (Kd.R_below (by (with_reducible repeat (first | apply Kd.R_alloc | apply Kd.R_drewN | apply Kd.R_drew)); exact (Kd.R_mono (Kd.R_far (p := ⟨gb443, 0, none⟩) (Kd.R_types HO_444001.out BK443.out (by decide)) (fun _ hk => hk.2) (.string t430)) (fun _ h_ => h_.1))) hb); have n2_ := Aside0.mk (blk_below (g := gb436) (o := .cells #[.string t430, .slice Ao14 t431.length co14, .bool t434, .string t435] 27 (0, 0)) (by (with_reducible repeat (first | refine blk_drewN ?_ _ | refine blk_drew ?_ | refine blk_alloc ?_ _)); refine blk_far ?_ NB436_443.out _; (with_reducible repeat (first | refine blk_drewN ?_ _ | refine blk_drew ?_ | refine blk_alloc ?_ _)); exact BK436.out) hb); have n3_ := Aside0.mk (blk_below (g := gb443) (o := .cells #[.string t430, .slice Ao19 t438.length co19, .bool t441, .string t442] 27 (0, 0)) (by (with_reducible repeat (first | refine blk_drewN ?_ _ | refine blk_drew ?_ | refine blk_alloc ?_ _)); refine blk_put (cs := #[.string t437, .slice Ao19 t438.length co19, .bool t441, .string t442]) ?_ 0 _ rfl; (with_reducible repeat (first | refine blk_drewN ?_ _ | refine blk_drew ?_ | refine blk_alloc ?_ _)); exact BK443.out) hb); have n4_ := Aside0.mk (below_step (by repeat (first | (with_reducible first | exact HB.out | apply below_alloc | apply pw_below_drewN | apply below_drew1 | refine below_set ?_ GE436.out | refine below_set ?_ GE443.out) | exact HB.out)) hb); clear HO_437001; clear HO_444001; clear BK436; clear BK443; clear HB; have HO_437001 := n0_; have HO_444001 := n1_; have BK436 := n2_; have BK443 := n3_; have HB := n4_; clear n0_ n1_ n2_ n3_ n4_; (try clear hb); (try clear hb2); (try clear hk); (try clear hi)))
       go_ret
       exact ⟨by first | rfl | (simp <;> rfl) | (simp [*] <;> rfl), by repeat (first | (with_reducible first | exact HB.out | apply below_alloc | apply pw_below_drewN | apply below_drew1 | refine below_set ?_ GE436.out | refine below_set ?_ GE443.out) | exact HB.out)⟩

/-- THE ONE PURE STATEMENT of laws_FnAddrPathOne: yours. -/
def laws_FnAddrPathOne.Pure : Prop := ∀ (l0 : List Int) (l1 : List Int), l0.length ≤ maxLen → l0.length * 1 ≤ 140737488351232 → (∀ x ∈ l0, (Lit.int .u8 x).wf = true) → l1.length ≤ maxLen → l1.length * 1 ≤ 140737488351232 → (∀ x ∈ l1, (Lit.int .u8 x).wf = true) → ∃ k, laws_FnAddrPathOne.f k l0 l1 = some true
theorem laws_FnAddrPathOne.walk (P : laws_FnAddrPathOne.Pure) (a0 : Option Addr) (len0 cap0 : Nat) (z0 : List Int) (a1 : Option Addr) (len1 cap1 : Nat) (z1 : List Int) (w : World) (w0 : (a0 = none ∧ len0 = 0 ∧ cap0 = 0 ∧ z0 = []) ∨ ∃ x, a0 = some x ∧ len0 ≤ cap0 ∧ cap0 ≤ maxLen ∧ z0.length = cap0 ∧ (∀ i, i < z0.length → w.cell? (x.add i) = some (.int .u8 (z0.getD i 0))) ∧ ∀ n ∈ z0, (Lit.int .u8 n).wf = true) (y0 : len0 * 1 ≤ 140737488351232) (w1 : (a1 = none ∧ len1 = 0 ∧ cap1 = 0 ∧ z1 = []) ∨ ∃ x, a1 = some x ∧ len1 ≤ cap1 ∧ cap1 ≤ maxLen ∧ z1.length = cap1 ∧ (∀ i, i < z1.length → w.cell? (x.add i) = some (.int .u8 (z1.getD i 0))) ∧ ∀ n ∈ z1, (Lit.int .u8 n).wf = true) (y1 : len1 * 1 ≤ 140737488351232) :
  Calls Try.prog 8 #[.slice a0 len0 cap0, .slice a1 len1 cap1] w fun e w' => e = .returned (.bool true) ∧ Below w.heap.size w w' := by
 obtain ⟨l0, rfl, hr0, hm0, hw0, hc0⟩ := ReadsInt.ofRowC w0
 obtain ⟨l1, rfl, hr1, hm1, hw1, hc1⟩ := ReadsInt.ofRowC w1
 obtain ⟨k, h⟩ := P l0 l1 hm0 y0 hw0 hm1 y1 hw1
 refine (laws_FnAddrPathOne.calls k _ _ l0 _ _ l1 true w (Kd.C_of_reads (d := (0 : Int)) (h1 := fun _ => rfl) hr0) hc0 (Kd.C_of_reads (d := (0 : Int)) (h1 := fun _ => rfl) hr1) hc1 h).mono ?_
 rintro e w' ⟨rfl, hd⟩
 exact ⟨rfl, hd⟩

end Go.Proofs.Ytochmlkladpfgaa.P
