-- Written by a program of this session (patch_print.py over the kit's print; given texts in wip/given).
import Derived.Test.YtochmlkladpfgaaPx0
import Derived.Test.YtochmlkladpfgaaPx4
import Derived.Test.YtochmlkladpfgaaPx6
import Derived.Test.YtochmlkladpfgaaPx7
import Derived.Test.YtochmlkladpfgaaPx13
import Derived.Test.YtochmlkladpfgaaPx20
namespace Go.Proofs.Ytochmlkladpfgaa.P
open Go.RowKit Go.Proofs.YtochmlkladpfgaaW.PrintWords Go.Proofs.YtochmlkladpfgaaW.PrintLast Go.Proofs.YtochmlkladpfgaaW.PrintMore
attribute [local go_sem] max2_int min2_int max_two min_two max_three min_three max_four min_four   -- for this text's walks alone
set_option linter.unusedVariables false
set_option linter.unusedSimpArgs false
set_option maxHeartbeats 8000000
set_option maxRecDepth 100000

/-! ### laws_FnAddrParts: function 9 -/
mutual
def laws_FnAddrParts.j0 : Nat → Bool → Bool → ByteArray → List ByteArray → Bool → ByteArray → Option (Bool)
 | 0, _, _, _, _, _, _ => none
 | k + 1, x4, x22, x390000, x390001, x390002, x390003 => if x22 = true then ((spec_AddrOk.f k x390000 x390001 x390002 x390003).bind fun t392 => (some (x4 == t392))) else (laws_FnAddrParts.l0 k 0 x390000 x390001 x390002 x390003)
def laws_FnAddrParts.l0 : Nat → Int → ByteArray → List ByteArray → Bool → ByteArray → Option (Bool)
 | 0, _, _, _, _, _ => none
 | k + 1, x5, x390000, x390001, x390002, x390003 => if x5 < (x390001.length : Int) then (if 0 ≤ x5 then ((impl_EscNorm.f k (rdOf ByteArray.empty x390001 x5)).bind fun bt394 => (if bt394.2 = true then (if bt394.1.toList = (rdOf ByteArray.empty x390001 x5).toList then (laws_FnAddrParts.l0 k (wrap64 (x5 + 1)) x390000 x390001 x390002 x390003) else (some false)) else (some false))) else (none)) else ((impl_PathClean.f k x390001).bind fun t397 => ((laws_lpTexts.f k t397 x390001).bind fun t400 => (if t400 = true then (some (decide ((x390001.length : Int) ≤ 5))) else (some false))))
end
def laws_FnAddrParts.f (k : Nat) (l0 : List Int) : Option (Bool) := if (l0.length : Int) > 1048576 then (some true) else ((spec_DrawAddrOk.f k l0).bind fun bt383 => ((impl_AddrOk.f k bt383.1 bt383.2.1 bt383.2.2.1 bt383.2.2.2).bind fun t390 => ((spec_AddrOk.f k bt383.1 bt383.2.1 bt383.2.2.1 bt383.2.2.2).bind fun t391 => (if (t390 != t391) = true then (laws_FnAddrParts.j0 k t390 true bt383.1 bt383.2.1 bt383.2.2.1 bt383.2.2.2) else (laws_FnAddrParts.j0 k t390 (!t390) bt383.1 bt383.2.1 bt383.2.2.1 bt383.2.2.2)))))
theorem laws_FnAddrParts.mono_l : ∀ k, (∀ y0 y1 y2 y3 y4 y5, LeO (laws_FnAddrParts.j0 k y0 y1 y2 y3 y4 y5) (laws_FnAddrParts.j0 (k + 1) y0 y1 y2 y3 y4 y5)) ∧ (∀ y0 y1 y2 y3 y4, LeO (laws_FnAddrParts.l0 k y0 y1 y2 y3 y4) (laws_FnAddrParts.l0 (k + 1) y0 y1 y2 y3 y4))
 | 0 => ⟨fun _ _ _ _ _ _ r h => by simp [laws_FnAddrParts.j0] at h, fun _ _ _ _ _ r h => by simp [laws_FnAddrParts.l0] at h⟩
 | k + 1 => by
  obtain ⟨ih0, ih1⟩ := laws_FnAddrParts.mono_l k
  refine ⟨?_, ?_⟩
  ·intro y0 y1 y2 y3 y4 y5
   unfold laws_FnAddrParts.j0
   repeat' first
   | (with_reducible exact ih0 _ _ _ _ _ _)
   | (with_reducible exact ih1 _ _ _ _ _)
   | (with_reducible exact impl_AddrOk.mono _ _ _ _ _)
   | (with_reducible exact impl_EscNorm.mono _ _)
   | (with_reducible exact impl_PathClean.mono _ _)
   | (with_reducible exact laws_lpTexts.mono _ _ _)
   | (with_reducible exact spec_AddrOk.mono _ _ _ _ _)
   | (with_reducible exact spec_DrawAddrOk.mono _ _)
   | (with_reducible exact LeO.refl _)
   | (with_reducible exact LeO.none _)
   | (with_reducible refine LeO.ite ?_ ?_)
   | (with_reducible refine LeO.bind ?_ (fun _ => ?_))
   | exact ih0 _ _ _ _ _ _
   | exact ih1 _ _ _ _ _
   | exact impl_AddrOk.mono _ _ _ _ _
   | exact impl_EscNorm.mono _ _
   | exact impl_PathClean.mono _ _
   | exact laws_lpTexts.mono _ _ _
   | exact spec_AddrOk.mono _ _ _ _ _
   | exact spec_DrawAddrOk.mono _ _
   | exact LeO.none _
   | refine LeO.ite ?_ ?_
   | refine LeO.bind ?_ (fun _ => ?_)
  ·intro y0 y1 y2 y3 y4
   unfold laws_FnAddrParts.l0
   repeat' first
   | (with_reducible exact ih0 _ _ _ _ _ _)
   | (with_reducible exact ih1 _ _ _ _ _)
   | (with_reducible exact impl_AddrOk.mono _ _ _ _ _)
   | (with_reducible exact impl_EscNorm.mono _ _)
   | (with_reducible exact impl_PathClean.mono _ _)
   | (with_reducible exact laws_lpTexts.mono _ _ _)
   | (with_reducible exact spec_AddrOk.mono _ _ _ _ _)
   | (with_reducible exact spec_DrawAddrOk.mono _ _)
   | (with_reducible exact LeO.refl _)
   | (with_reducible exact LeO.none _)
   | (with_reducible refine LeO.ite ?_ ?_)
   | (with_reducible refine LeO.bind ?_ (fun _ => ?_))
   | exact ih0 _ _ _ _ _ _
   | exact ih1 _ _ _ _ _
   | exact impl_AddrOk.mono _ _ _ _ _
   | exact impl_EscNorm.mono _ _
   | exact impl_PathClean.mono _ _
   | exact laws_lpTexts.mono _ _ _
   | exact spec_AddrOk.mono _ _ _ _ _
   | exact spec_DrawAddrOk.mono _ _
   | exact LeO.none _
   | refine LeO.ite ?_ ?_
   | refine LeO.bind ?_ (fun _ => ?_)
theorem laws_FnAddrParts.mono : ∀ a0 k, LeO (laws_FnAddrParts.f k a0) (laws_FnAddrParts.f (k + 1) a0) := by
 intro a0 k
 obtain ⟨ih0, ih1⟩ := laws_FnAddrParts.mono_l k
 unfold laws_FnAddrParts.f
 repeat' first
   | (with_reducible exact ih0 _ _ _ _ _ _)
   | (with_reducible exact ih1 _ _ _ _ _)
   | (with_reducible exact impl_AddrOk.mono _ _ _ _ _)
   | (with_reducible exact impl_EscNorm.mono _ _)
   | (with_reducible exact impl_PathClean.mono _ _)
   | (with_reducible exact laws_lpTexts.mono _ _ _)
   | (with_reducible exact spec_AddrOk.mono _ _ _ _ _)
   | (with_reducible exact spec_DrawAddrOk.mono _ _)
   | (with_reducible exact LeO.refl _)
   | (with_reducible exact LeO.none _)
   | (with_reducible refine LeO.ite ?_ ?_)
   | (with_reducible refine LeO.bind ?_ (fun _ => ?_))
   | exact ih0 _ _ _ _ _ _
   | exact ih1 _ _ _ _ _
   | exact impl_AddrOk.mono _ _ _ _ _
   | exact impl_EscNorm.mono _ _
   | exact impl_PathClean.mono _ _
   | exact laws_lpTexts.mono _ _ _
   | exact spec_AddrOk.mono _ _ _ _ _
   | exact spec_DrawAddrOk.mono _ _
   | exact LeO.none _
   | refine LeO.ite ?_ ?_
   | refine LeO.bind ?_ (fun _ => ?_)
def laws_FnAddrParts.T13 : Bool × List (List Nat × List Nat) := (true, [([], []), ([0], [0]), ([1], [1]), ([], []), ([3], [3]), ([2, 4, 2], [2, 4]), ([5, 5], [5]), ([6], [6]), ([7, 6], [6, 7]), ([8, 6], [6, 8]), ([9, 6], [6, 9]), ([6, 10], [6, 10]), ([11, 6, 0, 1, 2, 3, 4, 5, 6, 7, 8, 9, 10, 11], [11])])
def laws_FnAddrParts.B13 : List Nat := [0, 1, 3, 0, 8, 31, 63, 127, 255, 511, 1023, 2047, 4095]
theorem laws_FnAddrParts.tab13 : rtab .any (opsOf Try.f9 13) = laws_FnAddrParts.T13 := by kernel_rfl
theorem laws_FnAddrParts.bits13 : waitsOk laws_FnAddrParts.T13.2 laws_FnAddrParts.B13 = true := by kernel_rfl
theorem laws_FnAddrParts.calls (k : Nat) (A0 : Option Addr) (c0 : Nat) (l0 : List Int) (r : Bool) (w : World) (hr0 : Kd.C (Kd.int .u8) w A0 l0.length l0) (hc0 : l0.length ≤ c0) (h : laws_FnAddrParts.f k l0 = some r) :
  Calls Try.prog 9 #[.slice A0 l0.length c0] w fun e w' => e = .returned (.bool r) ∧ Below w.heap.size w w' := by
 have hu27 := Try.underlying27
 have HR0 := Aside0.mk hr0
 have HC0 := Aside0.mk hc0
 clear hr0 hc0
 have HB := Aside0.mk (Below.refl w.heap.size w)
 have H : (if (l0.length : Int) > 1048576 then (some true) else ((spec_DrawAddrOk.f k l0).bind fun bt383 => ((impl_AddrOk.f k bt383.1 bt383.2.1 bt383.2.2.1 bt383.2.2.2).bind fun t390 => ((spec_AddrOk.f k bt383.1 bt383.2.1 bt383.2.2.1 bt383.2.2.2).bind fun t391 => (if (t390 != t391) = true then (laws_FnAddrParts.j0 k t390 true bt383.1 bt383.2.1 bt383.2.2.1 bt383.2.2.2) else (laws_FnAddrParts.j0 k t390 (!t390) bt383.1 bt383.2.1 bt383.2.2.1 bt383.2.2.2)))))) = some r := h
 clear h
 by_cases c2 : (l0.length : Int) > 1048576
 ·rw [if_pos c2] at H
  have c2b0 : decide (1048576 < (l0.length : Int)) = true := decide_eq_true c2
  have c2b1 : decide (1048576 < l0.length) = true := decide_eq_true (by omega)
  clear c2
  obtain rfl := Option.some.inj H
  go_enter Try.func9, Try.ntmps9
  go_wp2
  go_ret
  exact ⟨by first | rfl | (simp <;> rfl) | (simp [*] <;> rfl), by repeat (first | (with_reducible first | exact HB.out | apply below_alloc | apply pw_below_drewN | apply below_drew1) | exact HB.out)⟩
 ·rw [if_neg c2] at H
  have c2b0 : decide (1048576 < (l0.length : Int)) = false := decide_eq_false c2
  have c2b1 : decide (1048576 < l0.length) = false := decide_eq_false (by omega)
  clear c2
  replace H := Option.bind_eq_some_iff.mp H
  obtain ⟨⟨t383, t384, t387, t388⟩, A30, H⟩ := H
  replace H : ((impl_AddrOk.f k t383 t384 t387 t388).bind fun t390 => ((spec_AddrOk.f k t383 t384 t387 t388).bind fun t391 => (if (t390 != t391) = true then (laws_FnAddrParts.j0 k t390 true t383 t384 t387 t388) else (laws_FnAddrParts.j0 k t390 (!t390) t383 t384 t387 t388)))) = some r := H
  have A3 := Aside0.mk A30
  clear A30
  replace H := Option.bind_eq_some_iff.mp H
  obtain ⟨t390, A40, H⟩ := H
  replace H : ((spec_AddrOk.f k t383 t384 t387 t388).bind fun t391 => (if (t390 != t391) = true then (laws_FnAddrParts.j0 k t390 true t383 t384 t387 t388) else (laws_FnAddrParts.j0 k t390 (!t390) t383 t384 t387 t388))) = some r := H
  have A4 := Aside0.mk A40
  clear A40
  have HC5 := Aside0.mk H
  clear H
  go_enter Try.func9, Try.ntmps9
  go_upto_region 5 with (first | ((with_reducible refine gate_callee (f := 22) rfl ?_); refine goesL_ (some 12) rfl rfl Try.func22 (by kernel_rfl) rfl #[.slice A0 l0.length c0] rfl (by (try simp only [List.map_toArray, List.map_cons, List.map_nil]); first | done | rfl | (simp only [List.length_drop, List.length_take]; rfl)) ?_; (with_reducible refine (spec_DrawAddrOk.calls k _ _ l0 t383 t384 t387 t388 _ ?side1 ?side2 A3.out).mono ?_); (case side1 => repeat (first | exact HR0.out | (with_reducible refine Kd.C_alloc ?_ _) | (with_reducible refine Kd.C_drewN ?_ _) | (with_reducible refine Kd.C_drew ?_))); (case side2 => exact HC0.out); rintro e w6 ⟨v385, rfl, ho0, hb⟩; refine ⟨_, rfl, ?_⟩; have n0_ := Aside0.mk (Kd.R_lower ho0 (below_size (by repeat (first | (with_reducible first | exact HB.out | apply below_alloc | apply pw_below_drewN | apply below_drew1) | exact HB.out)))); have n1_ := Aside0.mk (below_step (by repeat (first | (with_reducible first | exact HB.out | apply below_alloc | apply pw_below_drewN | apply below_drew1) | exact HB.out)) hb); clear HB; have HO386 := n0_; have HB := n1_; clear n0_ n1_; (try clear hb); (try clear hb2); (try clear hk); (try clear hi); (try clear ho0)) | ((with_reducible refine gate_dst (N := 3) rfl ?_); (try (refine gate_guard (by rfl) ?_; dsimp only)); refine box_event ?hg (N := 3) ?hd (cs := #[.string (⟨#[]⟩ : ByteArray), .slice none 0 0, .bool false, .string (⟨#[]⟩ : ByteArray)]) (t := 27) ?hr ?_; (case hd => rfl); (case hg => rfl); (case hr => first | (go_simp; done) | (go_simp; rfl)); intro gb389 hg w7 hbox hb; have n0_ := Aside0.mk (Kd.R_below (by (with_reducible repeat (first | apply Kd.R_alloc | apply Kd.R_drewN | apply Kd.R_drew)); exact HO386.out) hb); have n1_ := Aside0.mk (below_step (by repeat (first | (with_reducible first | exact HB.out | apply below_alloc | apply pw_below_drewN | apply below_drew1) | exact HB.out)) hb); have n2_ := Aside0.mk (hbox); have n3_ := Aside0.mk ((by rw [hg]; exact (below_size (by repeat (first | (with_reducible first | exact HB.out | apply below_alloc | apply pw_below_drewN | apply below_drew1) | exact HB.out))) : w.heap.size ≤ gb389)); have n4_ := n3_; clear HO386; clear HB; have HO386 := n0_; have HB := n1_; have BK389 := n2_; have GW389 := n3_; have GE389 := n4_; clear n0_ n1_ n2_ n3_ n4_; clear hb hbox hg; have hcz8_0 : w7.cell? ⟨gb389, 0, none⟩ = some (.string (⟨#[]⟩ : ByteArray)) := (blk_cell BK389.out 0).trans rfl; have hcz8_1 : w7.cell? ⟨gb389, 1, none⟩ = some (.slice none 0 0) := (blk_cell BK389.out 1).trans rfl; have hcz8_2 : w7.cell? ⟨gb389, 2, none⟩ = some (.bool false) := (blk_cell BK389.out 2).trans rfl; have hcz8_3 : w7.cell? ⟨gb389, 3, none⟩ = some (.string (⟨#[]⟩ : ByteArray)) := (blk_cell BK389.out 3).trans rfl; have hfz8_0 := blk_frozen BK389.out 0; have hfz8_1 := blk_frozen BK389.out 1; have hfz8_2 := blk_frozen BK389.out 2; have hfz8_3 := blk_frozen BK389.out 3; obtain ⟨Ao9, co9, eo9⟩ := Kd.R_slice HO386.out; subst eo9) | ((with_reducible refine gate_callee (f := 13) rfl ?_); refine goesL_ (some 14) rfl rfl Try.func13 (by kernel_rfl) rfl #[.agg #[.string t383, .slice Ao9 t384.length co9, .bool t387, .string t388]] rfl (by (try simp only [List.map_toArray, List.map_cons, List.map_nil]); first | done | rfl | (simp only [List.length_drop, List.length_take]; rfl)) ?_; (with_reducible refine (impl_AddrOk.calls k t383 _ _ t384 t387 t388 t390 _ ?side1 ?side2 A4.out).mono ?_); (case side1 => refine (Kd.R_reads' (e := 9) (base := w.heap.size) (ok := fun k_ => True) (n := t384.length) (c := co9) ?_).2.2; exact (by (with_reducible repeat (first | apply Kd.R_alloc | apply Kd.R_drewN | apply Kd.R_drew)); exact (Kd.R_mono (Kd.R_far (p := ⟨gb389, 3, none⟩) (Kd.R_far (p := ⟨gb389, 2, none⟩) (Kd.R_far (p := ⟨gb389, 1, none⟩) (Kd.R_far (p := ⟨gb389, 0, none⟩) (Kd.R_types HO386.out BK389.out (by decide)) (fun _ hk => hk.2) (.string t383)) (fun _ hk => hk.2) (.slice Ao9 t384.length co9)) (fun _ hk => hk.2) (.bool t387)) (fun _ hk => hk.2) (.string t388)) (fun _ h_ => h_.1)))); (case side2 => exact (Kd.R_reads' HO386.out).2.1); rintro e w10 ⟨rfl, hb⟩; refine ⟨_, rfl, ?_⟩; have n0_ := Aside0.mk (Kd.R_below (by (with_reducible repeat (first | apply Kd.R_alloc | apply Kd.R_drewN | apply Kd.R_drew)); exact (Kd.R_mono (Kd.R_far (p := ⟨gb389, 3, none⟩) (Kd.R_far (p := ⟨gb389, 2, none⟩) (Kd.R_far (p := ⟨gb389, 1, none⟩) (Kd.R_far (p := ⟨gb389, 0, none⟩) (Kd.R_types HO386.out BK389.out (by decide)) (fun _ hk => hk.2) (.string t383)) (fun _ hk => hk.2) (.slice Ao9 t384.length co9)) (fun _ hk => hk.2) (.bool t387)) (fun _ hk => hk.2) (.string t388)) (fun _ h_ => h_.1))) hb); have n1_ := Aside0.mk (blk_below (g := gb389) (o := .cells #[.string t383, .slice Ao9 t384.length co9, .bool t387, .string t388] 27 (0, 0)) (by (with_reducible repeat (first | refine blk_drewN ?_ _ | refine blk_drew ?_ | refine blk_alloc ?_ _)); refine blk_put (cs := #[.string t383, .slice Ao9 t384.length co9, .bool t387, .string (⟨#[]⟩ : ByteArray)]) ?_ 3 _ rfl; (with_reducible repeat (first | refine blk_drewN ?_ _ | refine blk_drew ?_ | refine blk_alloc ?_ _)); refine blk_put (cs := #[.string t383, .slice Ao9 t384.length co9, .bool false, .string (⟨#[]⟩ : ByteArray)]) ?_ 2 _ rfl; (with_reducible repeat (first | refine blk_drewN ?_ _ | refine blk_drew ?_ | refine blk_alloc ?_ _)); refine blk_put (cs := #[.string t383, .slice none 0 0, .bool false, .string (⟨#[]⟩ : ByteArray)]) ?_ 1 _ rfl; (with_reducible repeat (first | refine blk_drewN ?_ _ | refine blk_drew ?_ | refine blk_alloc ?_ _)); refine blk_put (cs := #[.string (⟨#[]⟩ : ByteArray), .slice none 0 0, .bool false, .string (⟨#[]⟩ : ByteArray)]) ?_ 0 _ rfl; (with_reducible repeat (first | refine blk_drewN ?_ _ | refine blk_drew ?_ | refine blk_alloc ?_ _)); exact BK389.out) hb); have n2_ := Aside0.mk (below_step (by repeat (first | (with_reducible first | exact HB.out | apply below_alloc | apply pw_below_drewN | apply below_drew1 | refine below_set ?_ GE389.out) | exact HB.out)) hb); clear HO386; clear BK389; clear HB; have HO386 := n0_; have BK389 := n1_; have HB := n2_; clear n0_ n1_ n2_; (try clear hb); (try clear hb2); (try clear hk); (try clear hi)))
  (try simp only [Act.put, List.setIfInBounds_toArray, List.set_cons_zero, List.set_cons_succ])
  go_cut [22] (fun v22 wc => ∃ (kq : Nat) (x22_4 : Bool), v22 = .bool x22_4 ∧ Aside0 (laws_FnAddrParts.j0 kq t390 x22_4 t383 t384 t387 t388 = some r) ∧ Aside0 (kq ≤ k) ∧ Aside0 (Kd.R Kd.string 9 wc w.heap.size (fun _ => True) (.slice Ao9 t384.length co9) t384) ∧ Aside0 (wc.heap[gb389]? = some (.cells #[.string t383, (.slice Ao9 t384.length co9), .bool t387, .string t388] 27 (0, 0))) ∧ Aside0 (Below w.heap.size w wc))
  case first =>
   have H := HC5.out
   clear HC5
   replace H := Option.bind_eq_some_iff.mp H
   obtain ⟨t391, A110, H⟩ := H
   replace H : (if (t390 != t391) = true then (laws_FnAddrParts.j0 k t390 true t383 t384 t387 t388) else (laws_FnAddrParts.j0 k t390 (!t390) t383 t384 t387 t388)) = some r := H
   have A11 := Aside0.mk A110
   clear A110
   by_cases c12 : (t390 != t391) = true
   ·rw [if_pos c12] at H
    have c12b0 : (t390 != t391) = true := c12
    (try (have c12b1 : decide (t390 = t391) = false := by simpa using c12))
    (try (have c12b2 : (t390 == t391) = false := by simpa using c12))
    (try (have c12b3 : ¬ (t390 = t391) := by simpa using c12))
    clear c12
    (first | rw [c12b0] | (simp only [i64_w, i32_w]; rw [c12b0]) | skip)
    have H' := Aside0.mk H
    clear H
    have hcz13_0 : w10.cell? ⟨gb389, 0, none⟩ = some (.string t383) := (blk_cell BK389.out 0).trans rfl
    have hcz13_1 : w10.cell? ⟨gb389, 1, none⟩ = some (.slice Ao9 t384.length co9) := (blk_cell BK389.out 1).trans rfl
    have hcz13_2 : w10.cell? ⟨gb389, 2, none⟩ = some (.bool t387) := (blk_cell BK389.out 2).trans rfl
    have hcz13_3 : w10.cell? ⟨gb389, 3, none⟩ = some (.string t388) := (blk_cell BK389.out 3).trans rfl
    have hfz13_0 := blk_frozen BK389.out 0
    have hfz13_1 := blk_frozen BK389.out 1
    have hfz13_2 := blk_frozen BK389.out 2
    have hfz13_3 := blk_frozen BK389.out 3
    go_wp2_with (first | ((with_reducible refine gate_callee (f := 11) rfl ?_); refine goesL_ (some 17) rfl rfl Try.func11 (by kernel_rfl) rfl #[.agg #[.string t383, .slice Ao9 t384.length co9, .bool t387, .string t388]] rfl (by (try simp only [List.map_toArray, List.map_cons, List.map_nil]); first | done | rfl | (simp only [List.length_drop, List.length_take]; rfl)) ?_; (with_reducible refine (spec_AddrOk.calls k t383 _ _ t384 t387 t388 t391 _ ?side1 ?side2 A11.out).mono ?_); (case side1 => repeat (first | exact (Kd.R_reads' HO386.out).2.2 | (with_reducible refine Kd.C_alloc ?_ _) | (with_reducible refine Kd.C_drewN ?_ _) | (with_reducible refine Kd.C_drew ?_))); (case side2 => exact (Kd.R_reads' HO386.out).2.1); rintro e w14 ⟨rfl, hb⟩; refine ⟨_, rfl, ?_⟩; have n0_ := Aside0.mk (Kd.R_below (by (with_reducible repeat (first | apply Kd.R_alloc | apply Kd.R_drewN | apply Kd.R_drew)); exact HO386.out) hb); have n1_ := Aside0.mk (blk_below (g := gb389) (o := .cells #[.string t383, .slice Ao9 t384.length co9, .bool t387, .string t388] 27 (0, 0)) (by (with_reducible repeat (first | refine blk_drewN ?_ _ | refine blk_drew ?_ | refine blk_alloc ?_ _)); exact BK389.out) hb); have n2_ := Aside0.mk (below_step (by repeat (first | (with_reducible first | exact HB.out | apply below_alloc | apply pw_below_drewN | apply below_drew1 | refine below_set ?_ GE389.out) | exact HB.out)) hb); clear HO386; clear BK389; clear HB; have HO386 := n0_; have BK389 := n1_; have HB := n2_; clear n0_ n1_ n2_; (try clear hb); (try clear hb2); (try clear hk); (try clear hi)))
    go_meet
    case rel => exact ⟨_, (true), (by first | rfl | (simp; done) | (simp only [i64_w, i32_w]; done) | (simp only [i64_w, i32_w]; rfl) | (simp [*]; done) | (simp [emp_bne, emp_beq]; done)), H', ⟨by first | omega | exact Nat.le_refl _⟩, ⟨by (with_reducible repeat (first | apply Kd.R_alloc | apply Kd.R_drewN | apply Kd.R_drew)); exact HO386.out⟩, ⟨by (with_reducible repeat (first | refine blk_drewN ?_ _ | refine blk_drew ?_ | refine blk_alloc ?_ _)); exact BK389.out⟩, ⟨by repeat (first | (with_reducible first | exact HB.out | apply below_alloc | apply pw_below_drewN | apply below_drew1 | refine below_set ?_ GE389.out) | exact HB.out)⟩⟩
   ·rw [if_neg c12] at H
    have c12b0 : (t390 != t391) = false := by simpa using c12
    (try (have c12b1 : decide (t390 = t391) = true := by simpa using c12))
    (try (have c12b2 : (t390 == t391) = true := by simpa using c12))
    clear c12
    (first | rw [c12b0] | (simp only [i64_w, i32_w]; rw [c12b0]) | skip)
    have H' := Aside0.mk H
    clear H
    have hcz15_0 : w10.cell? ⟨gb389, 0, none⟩ = some (.string t383) := (blk_cell BK389.out 0).trans rfl
    have hcz15_1 : w10.cell? ⟨gb389, 1, none⟩ = some (.slice Ao9 t384.length co9) := (blk_cell BK389.out 1).trans rfl
    have hcz15_2 : w10.cell? ⟨gb389, 2, none⟩ = some (.bool t387) := (blk_cell BK389.out 2).trans rfl
    have hcz15_3 : w10.cell? ⟨gb389, 3, none⟩ = some (.string t388) := (blk_cell BK389.out 3).trans rfl
    have hfz15_0 := blk_frozen BK389.out 0
    have hfz15_1 := blk_frozen BK389.out 1
    have hfz15_2 := blk_frozen BK389.out 2
    have hfz15_3 := blk_frozen BK389.out 3
    go_wp2_with (first | ((with_reducible refine gate_callee (f := 11) rfl ?_); refine goesL_ (some 17) rfl rfl Try.func11 (by kernel_rfl) rfl #[.agg #[.string t383, .slice Ao9 t384.length co9, .bool t387, .string t388]] rfl (by (try simp only [List.map_toArray, List.map_cons, List.map_nil]); first | done | rfl | (simp only [List.length_drop, List.length_take]; rfl)) ?_; (with_reducible refine (spec_AddrOk.calls k t383 _ _ t384 t387 t388 t391 _ ?side1 ?side2 A11.out).mono ?_); (case side1 => repeat (first | exact (Kd.R_reads' HO386.out).2.2 | (with_reducible refine Kd.C_alloc ?_ _) | (with_reducible refine Kd.C_drewN ?_ _) | (with_reducible refine Kd.C_drew ?_))); (case side2 => exact (Kd.R_reads' HO386.out).2.1); rintro e w16 ⟨rfl, hb⟩; refine ⟨_, rfl, ?_⟩; have n0_ := Aside0.mk (Kd.R_below (by (with_reducible repeat (first | apply Kd.R_alloc | apply Kd.R_drewN | apply Kd.R_drew)); exact HO386.out) hb); have n1_ := Aside0.mk (blk_below (g := gb389) (o := .cells #[.string t383, .slice Ao9 t384.length co9, .bool t387, .string t388] 27 (0, 0)) (by (with_reducible repeat (first | refine blk_drewN ?_ _ | refine blk_drew ?_ | refine blk_alloc ?_ _)); exact BK389.out) hb); have n2_ := Aside0.mk (below_step (by repeat (first | (with_reducible first | exact HB.out | apply below_alloc | apply pw_below_drewN | apply below_drew1 | refine below_set ?_ GE389.out) | exact HB.out)) hb); clear HO386; clear BK389; clear HB; have HO386 := n0_; have BK389 := n1_; have HB := n2_; clear n0_ n1_ n2_; (try clear hb); (try clear hb2); (try clear hk); (try clear hi)))
    go_meet
    case rel => exact ⟨_, (!t390), (by first | rfl | (simp; done) | (simp only [i64_w, i32_w]; done) | (simp only [i64_w, i32_w]; rfl) | (simp [*]; done) | (simp [emp_bne, emp_beq]; done)), H', ⟨by first | omega | exact Nat.le_refl _⟩, ⟨by (with_reducible repeat (first | apply Kd.R_alloc | apply Kd.R_drewN | apply Kd.R_drew)); exact HO386.out⟩, ⟨by (with_reducible repeat (first | refine blk_drewN ?_ _ | refine blk_drew ?_ | refine blk_alloc ?_ _)); exact BK389.out⟩, ⟨by repeat (first | (with_reducible first | exact HB.out | apply below_alloc | apply pw_below_drewN | apply below_drew1 | refine below_set ?_ GE389.out) | exact HB.out)⟩⟩
  case rest =>
   clear HC5
   try clear c1
   try clear c2
   try clear c2b0
   try clear c2b1
   try clear p2
   try clear c9
   try clear c11
   try clear c12
   try clear c12b0
   try clear c12b1
   try clear c12b2
   try clear c13
   try clear hcz13_0
   try clear hcz13_1
   try clear hcz13_2
   try clear hcz13_3
   try clear hcz15_0
   try clear hcz15_1
   try clear hcz15_2
   try clear hcz15_3
   try clear hcz8_0
   try clear hcz8_1
   try clear hcz8_2
   try clear hcz8_3
   try clear hfz13_0
   try clear hfz13_1
   try clear hfz13_2
   try clear hfz13_3
   try clear hfz15_0
   try clear hfz15_1
   try clear hfz15_2
   try clear hfz15_3
   try clear hfz8_0
   try clear hfz8_1
   try clear hfz8_2
   try clear hfz8_3
   obtain ⟨kq, x22_4, rfl, HA, HJ4, HO_390001, BK389, HB⟩ := hcut
   cases kq with
   | zero => exact absurd HA.out (by simp [laws_FnAddrParts.j0])
   | succ kj4 =>
    have H := HA.out
    clear HA
    simp only [laws_FnAddrParts.j0] at H
    by_cases c17 : x22_4 = true
    ·subst c17
     have H1 : ((spec_AddrOk.f kj4 t383 t384 t387 t388).bind fun t392 => (some (t390 == t392))) = some r := by rw [if_pos rfl] at H; exact H
     clear H
     have H := H1
     clear H1
     replace H := Option.bind_eq_some_iff.mp H
     obtain ⟨t392, A180, H⟩ := H
     replace H : (some (t390 == t392)) = some r := H
     have A18 := Aside0.mk A180
     clear A180
     obtain rfl := Option.some.inj H
     have hcz19_0 : wc.cell? ⟨gb389, 0, none⟩ = some (.string t383) := (blk_cell BK389.out 0).trans rfl
     have hcz19_1 : wc.cell? ⟨gb389, 1, none⟩ = some (.slice Ao9 t384.length co9) := (blk_cell BK389.out 1).trans rfl
     have hcz19_2 : wc.cell? ⟨gb389, 2, none⟩ = some (.bool t387) := (blk_cell BK389.out 2).trans rfl
     have hcz19_3 : wc.cell? ⟨gb389, 3, none⟩ = some (.string t388) := (blk_cell BK389.out 3).trans rfl
     have hfz19_0 := blk_frozen BK389.out 0
     have hfz19_1 := blk_frozen BK389.out 1
     have hfz19_2 := blk_frozen BK389.out 2
     have hfz19_3 := blk_frozen BK389.out 3
     go_wp2_with (first | ((with_reducible refine gate_callee (f := 11) rfl ?_); refine goesL_ (some 25) rfl rfl Try.func11 (by kernel_rfl) rfl #[.agg #[.string t383, .slice Ao9 t384.length co9, .bool t387, .string t388]] rfl (by (try simp only [List.map_toArray, List.map_cons, List.map_nil]); first | done | rfl | (simp only [List.length_drop, List.length_take]; rfl)) ?_; (with_reducible refine (spec_AddrOk.calls kj4 t383 _ _ t384 t387 t388 t392 _ ?side1 ?side2 A18.out).mono ?_); (case side1 => repeat (first | exact (Kd.R_reads' HO_390001.out).2.2 | (with_reducible refine Kd.C_alloc ?_ _) | (with_reducible refine Kd.C_drewN ?_ _) | (with_reducible refine Kd.C_drew ?_))); (case side2 => exact (Kd.R_reads' HO_390001.out).2.1); rintro e w20 ⟨rfl, hb⟩; refine ⟨_, rfl, ?_⟩; have n0_ := Aside0.mk (Kd.R_below (by (with_reducible repeat (first | apply Kd.R_alloc | apply Kd.R_drewN | apply Kd.R_drew)); exact HO_390001.out) hb); have n1_ := Aside0.mk (blk_below (g := gb389) (o := .cells #[.string t383, .slice Ao9 t384.length co9, .bool t387, .string t388] 27 (0, 0)) (by (with_reducible repeat (first | refine blk_drewN ?_ _ | refine blk_drew ?_ | refine blk_alloc ?_ _)); exact BK389.out) hb); have n2_ := Aside0.mk (below_step (by repeat (first | (with_reducible first | exact HB.out | apply below_alloc | apply pw_below_drewN | apply below_drew1 | refine below_set ?_ GE389.out) | exact HB.out)) hb); clear HO_390001; clear BK389; clear HB; have HO_390001 := n0_; have BK389 := n1_; have HB := n2_; clear n0_ n1_ n2_; (try clear hb); (try clear hb2); (try clear hk); (try clear hi)))
     go_ret
     exact ⟨by first | rfl | (simp <;> rfl) | (simp [*] <;> rfl), by repeat (first | (with_reducible first | exact HB.out | apply below_alloc | apply pw_below_drewN | apply below_drew1 | refine below_set ?_ GE389.out) | exact HB.out)⟩
    ·replace c17 := Bool.eq_false_iff.mpr c17
     subst c17
     have H1 : (laws_FnAddrParts.l0 kj4 0 t383 t384 t387 t388) = some r := by rw [if_neg (show ¬ (false = true) by decide)] at H; exact H
     clear H
     have H := H1
     clear H1
     have H' := Aside0.mk H
     clear H
     go_wp2
     go_loopg [5] kj4 (fun kq v5 w' => ∃ (x5_2 : Int), v5 = .int .i64 x5_2 ∧ Aside0 (laws_FnAddrParts.l0 kq x5_2 t383 t384 t387 t388 = some r) ∧ Aside0 (kq ≤ kj4) ∧ Aside0 (Kd.R Kd.string 9 w' w.heap.size (fun _ => True) (.slice Ao9 t384.length co9) t384) ∧ Aside0 (w'.heap[gb389]? = some (.cells #[.string t383, (.slice Ao9 t384.length co9), .bool t387, .string t388] 27 (0, 0))) ∧ Aside0 (Below w.heap.size w w'))
     case atStart => exact ⟨(0), (by first | rfl | (simp; done) | (simp only [i64_w, i32_w]; done) | (simp only [i64_w, i32_w]; rfl) | (simp [*]; done) | (simp [emp_bne, emp_beq]; done)), H', ⟨Nat.le_refl _⟩, ⟨by (with_reducible repeat (first | apply Kd.R_alloc | apply Kd.R_drewN | apply Kd.R_drew)); exact HO_390001.out⟩, ⟨by (with_reducible repeat (first | refine blk_drewN ?_ _ | refine blk_drew ?_ | refine blk_alloc ?_ _)); exact BK389.out⟩, ⟨by repeat (first | (with_reducible first | exact HB.out | apply below_alloc | apply pw_below_drewN | apply below_drew1 | refine below_set ?_ GE389.out) | exact HB.out)⟩⟩
     case round =>
      clear H'
      try clear c1
      try clear c2
      try clear c2b0
      try clear c2b1
      try clear p2
      try clear c9
      try clear c11
      try clear c12
      try clear c12b0
      try clear c12b1
      try clear c12b2
      try clear c13
      try clear c17
      try clear hcz13_0
      try clear hcz13_1
      try clear hcz13_2
      try clear hcz13_3
      try clear hcz15_0
      try clear hcz15_1
      try clear hcz15_2
      try clear hcz15_3
      try clear hcz19_0
      try clear hcz19_1
      try clear hcz19_2
      try clear hcz19_3
      try clear hcz8_0
      try clear hcz8_1
      try clear hcz8_2
      try clear hcz8_3
      try clear hfz13_0
      try clear hfz13_1
      try clear hfz13_2
      try clear hfz13_3
      try clear hfz15_0
      try clear hfz15_1
      try clear hfz15_2
      try clear hfz15_3
      try clear hfz19_0
      try clear hfz19_1
      try clear hfz19_2
      try clear hfz19_3
      try clear hfz8_0
      try clear hfz8_1
      try clear hfz8_2
      try clear hfz8_3
      try clear p2
      obtain ⟨x5_2, rfl, HA, HK2, HO_390001, BK389, HB⟩ := hrel
      cases gk with
      | zero => exact absurd HA.out (by simp [laws_FnAddrParts.l0])
      | succ k2 =>
       have H := HA.out
       clear HA
       simp only [laws_FnAddrParts.l0] at H
       by_cases c21 : x5_2 < (t384.length : Int)
       ·rw [if_pos c21] at H
        have c21b0 : decide (x5_2 < (t384.length : Int)) = true := decide_eq_true c21
        clear c21
        by_cases c22 : 0 ≤ x5_2
        ·rw [if_pos c22] at H
         have c22b0 : decide (0 ≤ x5_2) = true := decide_eq_true c22
         clear c22
         replace H := Option.bind_eq_some_iff.mp H
         obtain ⟨⟨t394, t395⟩, A230, H⟩ := H
         replace H : (if t395 = true then (if t394.toList = (rdOf ByteArray.empty t384 x5_2).toList then (laws_FnAddrParts.l0 k2 (wrap64 (x5_2 + 1)) t383 t384 t387 t388) else (some false)) else (some false)) = some r := H
         have A23 := Aside0.mk A230
         clear A230
         by_cases c24 : t395 = true
         ·subst c24
          have H1 : (if t394.toList = (rdOf ByteArray.empty t384 x5_2).toList then (laws_FnAddrParts.l0 k2 (wrap64 (x5_2 + 1)) t383 t384 t387 t388) else (some false)) = some r := by rw [if_pos rfl] at H; exact H
          clear H
          have H := H1
          clear H1
          by_cases c25 : t394.toList = (rdOf ByteArray.empty t384 x5_2).toList
          ·rw [if_pos c25] at H
           have c25b0 : (t394.toList == (rdOf ByteArray.empty t384 x5_2).toList) = true := beq_iff_eq.mpr c25
           have c25b1 : (t394.toList != (rdOf ByteArray.empty t384 x5_2).toList) = false := bne_eq_false_iff_eq.mpr c25
           clear c25
           have H' := Aside0.mk H
           clear H
           have hcz26_0 : wr.cell? ⟨gb389, 0, none⟩ = some (.string t383) := (blk_cell BK389.out 0).trans rfl
           have hcz26_1 : wr.cell? ⟨gb389, 1, none⟩ = some (.slice Ao9 t384.length co9) := (blk_cell BK389.out 1).trans rfl
           have hcz26_2 : wr.cell? ⟨gb389, 2, none⟩ = some (.bool t387) := (blk_cell BK389.out 2).trans rfl
           have hcz26_3 : wr.cell? ⟨gb389, 3, none⟩ = some (.string t388) := (blk_cell BK389.out 3).trans rfl
           have hfz26_0 := blk_frozen BK389.out 0
           have hfz26_1 := blk_frozen BK389.out 1
           have hfz26_2 := blk_frozen BK389.out 2
           have hfz26_3 := blk_frozen BK389.out 3
           have p393 : 0 ≤ (x5_2 : Int) := of_decide_eq_true (by first | (with_reducible assumption) | assumption)
           have q393 : x5_2 < (t384.length : Int) := of_decide_eq_true (by first | (with_reducible assumption) | assumption)
           obtain ⟨ad393, e393, hx393_0⟩ := Kd.at_string (Kd.R_reads' HO_390001.out).2.2 x5_2 p393 q393
           cases e393
           replace p393 := eq_true p393
           replace q393 := eq_true q393
           go_wp2_with (first | ((with_reducible refine gate_callee (f := 23) rfl ?_); refine goesL_ (some 40) rfl rfl Try.func23 (by kernel_rfl) rfl #[.string (rdOf ByteArray.empty t384 x5_2)] rfl (by (try simp only [List.map_toArray, List.map_cons, List.map_nil]); first | done | rfl | (simp only [List.length_drop, List.length_take]; rfl)) ?_; (with_reducible refine (impl_EscNorm.calls k2 (rdOf ByteArray.empty t384 x5_2) t394 true _ A23.out).mono ?_); rintro e w27 ⟨rfl, hb⟩; refine ⟨_, rfl, ?_⟩; have n0_ := Aside0.mk (Kd.R_below (by (with_reducible repeat (first | apply Kd.R_alloc | apply Kd.R_drewN | apply Kd.R_drew)); exact HO_390001.out) hb); have n1_ := Aside0.mk (blk_below (g := gb389) (o := .cells #[.string t383, .slice (some ad393) t384.length co9, .bool t387, .string t388] 27 (0, 0)) (by (with_reducible repeat (first | refine blk_drewN ?_ _ | refine blk_drew ?_ | refine blk_alloc ?_ _)); exact BK389.out) hb); have n2_ := Aside0.mk (below_step (by repeat (first | (with_reducible first | exact HB.out | apply below_alloc | apply pw_below_drewN | apply below_drew1 | refine below_set ?_ GE389.out) | exact HB.out)) hb); clear HO_390001; clear BK389; clear HB; have HO_390001 := n0_; have BK389 := n1_; have HB := n2_; clear n0_ n1_ n2_; (try clear hb); (try clear hb2); (try clear hk); (try clear hi); have hcz28_0 : w27.cell? ⟨gb389, 0, none⟩ = some (.string t383) := (blk_cell BK389.out 0).trans rfl; have hcz28_1 : w27.cell? ⟨gb389, 1, none⟩ = some (.slice (some ad393) t384.length co9) := (blk_cell BK389.out 1).trans rfl; have hcz28_2 : w27.cell? ⟨gb389, 2, none⟩ = some (.bool t387) := (blk_cell BK389.out 2).trans rfl; have hcz28_3 : w27.cell? ⟨gb389, 3, none⟩ = some (.string t388) := (blk_cell BK389.out 3).trans rfl; have hfz28_0 := blk_frozen BK389.out 0; have hfz28_1 := blk_frozen BK389.out 1; have hfz28_2 := blk_frozen BK389.out 2; have hfz28_3 := blk_frozen BK389.out 3; have p396 : 0 ≤ (x5_2 : Int) := of_decide_eq_true (by first | (with_reducible assumption) | assumption); have q396 : x5_2 < (t384.length : Int) := of_decide_eq_true (by first | (with_reducible assumption) | assumption); obtain ⟨ad396, e396, hx396_0⟩ := Kd.at_string (Kd.R_reads' HO_390001.out).2.2 x5_2 p396 q396; obtain rfl : ad393 = ad396 := (by injection e396); replace p396 := eq_true p396; replace q396 := eq_true q396))
           go_roundg k2
           case measure => have := HJ4.out; have := HK2.out; omega
           case rel => exact ⟨(wrap64 (x5_2 + 1)), (by first | rfl | (simp; done) | (simp only [i64_w, i32_w]; done) | (simp only [i64_w, i32_w]; rfl) | (simp [*]; done) | (simp [emp_bne, emp_beq]; done)), H', ⟨by have := HJ4.out; have := HK2.out; omega⟩, ⟨by (with_reducible repeat (first | apply Kd.R_alloc | apply Kd.R_drewN | apply Kd.R_drew)); exact HO_390001.out⟩, ⟨by (with_reducible repeat (first | refine blk_drewN ?_ _ | refine blk_drew ?_ | refine blk_alloc ?_ _)); exact BK389.out⟩, ⟨by repeat (first | (with_reducible first | exact HB.out | apply below_alloc | apply pw_below_drewN | apply below_drew1 | refine below_set ?_ GE389.out) | exact HB.out)⟩⟩
          ·rw [if_neg c25] at H
           have c25b0 : (t394.toList == (rdOf ByteArray.empty t384 x5_2).toList) = false := beq_eq_false_iff_ne.mpr c25
           have c25b1 : (t394.toList != (rdOf ByteArray.empty t384 x5_2).toList) = true := bne_iff_ne.mpr c25
           obtain rfl := Option.some.inj H
           have hcz29_0 : wr.cell? ⟨gb389, 0, none⟩ = some (.string t383) := (blk_cell BK389.out 0).trans rfl
           have hcz29_1 : wr.cell? ⟨gb389, 1, none⟩ = some (.slice Ao9 t384.length co9) := (blk_cell BK389.out 1).trans rfl
           have hcz29_2 : wr.cell? ⟨gb389, 2, none⟩ = some (.bool t387) := (blk_cell BK389.out 2).trans rfl
           have hcz29_3 : wr.cell? ⟨gb389, 3, none⟩ = some (.string t388) := (blk_cell BK389.out 3).trans rfl
           have hfz29_0 := blk_frozen BK389.out 0
           have hfz29_1 := blk_frozen BK389.out 1
           have hfz29_2 := blk_frozen BK389.out 2
           have hfz29_3 := blk_frozen BK389.out 3
           have p393 : 0 ≤ (x5_2 : Int) := of_decide_eq_true (by first | (with_reducible assumption) | assumption)
           have q393 : x5_2 < (t384.length : Int) := of_decide_eq_true (by first | (with_reducible assumption) | assumption)
           obtain ⟨ad393, e393, hx393_0⟩ := Kd.at_string (Kd.R_reads' HO_390001.out).2.2 x5_2 p393 q393
           cases e393
           replace p393 := eq_true p393
           replace q393 := eq_true q393
           go_wp2_with (first | ((with_reducible refine gate_callee (f := 23) rfl ?_); refine goesL_ (some 40) rfl rfl Try.func23 (by kernel_rfl) rfl #[.string (rdOf ByteArray.empty t384 x5_2)] rfl (by (try simp only [List.map_toArray, List.map_cons, List.map_nil]); first | done | rfl | (simp only [List.length_drop, List.length_take]; rfl)) ?_; (with_reducible refine (impl_EscNorm.calls k2 (rdOf ByteArray.empty t384 x5_2) t394 true _ A23.out).mono ?_); rintro e w30 ⟨rfl, hb⟩; refine ⟨_, rfl, ?_⟩; have n0_ := Aside0.mk (Kd.R_below (by (with_reducible repeat (first | apply Kd.R_alloc | apply Kd.R_drewN | apply Kd.R_drew)); exact HO_390001.out) hb); have n1_ := Aside0.mk (blk_below (g := gb389) (o := .cells #[.string t383, .slice (some ad393) t384.length co9, .bool t387, .string t388] 27 (0, 0)) (by (with_reducible repeat (first | refine blk_drewN ?_ _ | refine blk_drew ?_ | refine blk_alloc ?_ _)); exact BK389.out) hb); have n2_ := Aside0.mk (below_step (by repeat (first | (with_reducible first | exact HB.out | apply below_alloc | apply pw_below_drewN | apply below_drew1 | refine below_set ?_ GE389.out) | exact HB.out)) hb); clear HO_390001; clear BK389; clear HB; have HO_390001 := n0_; have BK389 := n1_; have HB := n2_; clear n0_ n1_ n2_; (try clear hb); (try clear hb2); (try clear hk); (try clear hi); have hcz31_0 : w30.cell? ⟨gb389, 0, none⟩ = some (.string t383) := (blk_cell BK389.out 0).trans rfl; have hcz31_1 : w30.cell? ⟨gb389, 1, none⟩ = some (.slice (some ad393) t384.length co9) := (blk_cell BK389.out 1).trans rfl; have hcz31_2 : w30.cell? ⟨gb389, 2, none⟩ = some (.bool t387) := (blk_cell BK389.out 2).trans rfl; have hcz31_3 : w30.cell? ⟨gb389, 3, none⟩ = some (.string t388) := (blk_cell BK389.out 3).trans rfl; have hfz31_0 := blk_frozen BK389.out 0; have hfz31_1 := blk_frozen BK389.out 1; have hfz31_2 := blk_frozen BK389.out 2; have hfz31_3 := blk_frozen BK389.out 3; have p396 : 0 ≤ (x5_2 : Int) := of_decide_eq_true (by first | (with_reducible assumption) | assumption); have q396 : x5_2 < (t384.length : Int) := of_decide_eq_true (by first | (with_reducible assumption) | assumption); obtain ⟨ad396, e396, hx396_0⟩ := Kd.at_string (Kd.R_reads' HO_390001.out).2.2 x5_2 p396 q396; obtain rfl : ad393 = ad396 := (by injection e396); replace p396 := eq_true p396; replace q396 := eq_true q396))
           go_ret
           exact ⟨by first | rfl | (simp <;> rfl) | (simp [*] <;> rfl), by repeat (first | (with_reducible first | exact HB.out | apply below_alloc | apply pw_below_drewN | apply below_drew1 | refine below_set ?_ GE389.out) | exact HB.out)⟩
         ·replace c24 := Bool.eq_false_iff.mpr c24
          subst c24
          have H1 : (some false) = some r := by rw [if_neg (show ¬ (false = true) by decide)] at H; exact H
          clear H
          have H := H1
          clear H1
          obtain rfl := Option.some.inj H
          have hcz32_0 : wr.cell? ⟨gb389, 0, none⟩ = some (.string t383) := (blk_cell BK389.out 0).trans rfl
          have hcz32_1 : wr.cell? ⟨gb389, 1, none⟩ = some (.slice Ao9 t384.length co9) := (blk_cell BK389.out 1).trans rfl
          have hcz32_2 : wr.cell? ⟨gb389, 2, none⟩ = some (.bool t387) := (blk_cell BK389.out 2).trans rfl
          have hcz32_3 : wr.cell? ⟨gb389, 3, none⟩ = some (.string t388) := (blk_cell BK389.out 3).trans rfl
          have hfz32_0 := blk_frozen BK389.out 0
          have hfz32_1 := blk_frozen BK389.out 1
          have hfz32_2 := blk_frozen BK389.out 2
          have hfz32_3 := blk_frozen BK389.out 3
          have p393 : 0 ≤ (x5_2 : Int) := of_decide_eq_true (by first | (with_reducible assumption) | assumption)
          have q393 : x5_2 < (t384.length : Int) := of_decide_eq_true (by first | (with_reducible assumption) | assumption)
          obtain ⟨ad393, e393, hx393_0⟩ := Kd.at_string (Kd.R_reads' HO_390001.out).2.2 x5_2 p393 q393
          cases e393
          replace p393 := eq_true p393
          replace q393 := eq_true q393
          go_wp2_with (first | ((with_reducible refine gate_callee (f := 23) rfl ?_); refine goesL_ (some 40) rfl rfl Try.func23 (by kernel_rfl) rfl #[.string (rdOf ByteArray.empty t384 x5_2)] rfl (by (try simp only [List.map_toArray, List.map_cons, List.map_nil]); first | done | rfl | (simp only [List.length_drop, List.length_take]; rfl)) ?_; (with_reducible refine (impl_EscNorm.calls k2 (rdOf ByteArray.empty t384 x5_2) t394 false _ A23.out).mono ?_); rintro e w33 ⟨rfl, hb⟩; refine ⟨_, rfl, ?_⟩; have n0_ := Aside0.mk (Kd.R_below (by (with_reducible repeat (first | apply Kd.R_alloc | apply Kd.R_drewN | apply Kd.R_drew)); exact HO_390001.out) hb); have n1_ := Aside0.mk (blk_below (g := gb389) (o := .cells #[.string t383, .slice (some ad393) t384.length co9, .bool t387, .string t388] 27 (0, 0)) (by (with_reducible repeat (first | refine blk_drewN ?_ _ | refine blk_drew ?_ | refine blk_alloc ?_ _)); exact BK389.out) hb); have n2_ := Aside0.mk (below_step (by repeat (first | (with_reducible first | exact HB.out | apply below_alloc | apply pw_below_drewN | apply below_drew1 | refine below_set ?_ GE389.out) | exact HB.out)) hb); clear HO_390001; clear BK389; clear HB; have HO_390001 := n0_; have BK389 := n1_; have HB := n2_; clear n0_ n1_ n2_; (try clear hb); (try clear hb2); (try clear hk); (try clear hi)))
          go_ret
          exact ⟨by first | rfl | (simp <;> rfl) | (simp [*] <;> rfl), by repeat (first | (with_reducible first | exact HB.out | apply below_alloc | apply pw_below_drewN | apply below_drew1 | refine below_set ?_ GE389.out) | exact HB.out)⟩
        ·rw [if_neg c22] at H
         exact absurd H (by simp)
       ·rw [if_neg c21] at H
        have c21b0 : decide (x5_2 < (t384.length : Int)) = false := decide_eq_false c21
        clear c21
        replace H := Option.bind_eq_some_iff.mp H
        obtain ⟨t397, A340, H⟩ := H
        replace H : ((laws_lpTexts.f k2 t397 t384).bind fun t400 => (if t400 = true then (some (decide ((t384.length : Int) ≤ 5))) else (some false))) = some r := H
        have A34 := Aside0.mk A340
        clear A340
        replace H := Option.bind_eq_some_iff.mp H
        obtain ⟨t400, A350, H⟩ := H
        replace H : (if t400 = true then (some (decide ((t384.length : Int) ≤ 5))) else (some false)) = some r := H
        have A35 := Aside0.mk A350
        clear A350
        by_cases c36 : t400 = true
        ·subst c36
         have H1 : (some (decide ((t384.length : Int) ≤ 5))) = some r := by rw [if_pos rfl] at H; exact H
         clear H
         have H := H1
         clear H1
         obtain rfl := Option.some.inj H
         have hcz37_0 : wr.cell? ⟨gb389, 0, none⟩ = some (.string t383) := (blk_cell BK389.out 0).trans rfl
         have hcz37_1 : wr.cell? ⟨gb389, 1, none⟩ = some (.slice Ao9 t384.length co9) := (blk_cell BK389.out 1).trans rfl
         have hcz37_2 : wr.cell? ⟨gb389, 2, none⟩ = some (.bool t387) := (blk_cell BK389.out 2).trans rfl
         have hcz37_3 : wr.cell? ⟨gb389, 3, none⟩ = some (.string t388) := (blk_cell BK389.out 3).trans rfl
         have hfz37_0 := blk_frozen BK389.out 0
         have hfz37_1 := blk_frozen BK389.out 1
         have hfz37_2 := blk_frozen BK389.out 2
         have hfz37_3 := blk_frozen BK389.out 3
         try go_wp2
         have n0_ := Aside0.mk (Kd.R_drew HO_390001.out)
         have n1_ := Aside0.mk (blk_drew BK389.out)
         have n2_ := Aside0.mk (below_drew1 HB.out)
         clear HO_390001
         clear BK389
         clear HB
         have HO_390001 := n0_
         have BK389 := n1_
         have HB := n2_
         clear n0_ n1_ n2_
         refine start_ (n := 13) (S := fun w' => w'.cell? ⟨gb389, 0, none⟩ = some (.string t383) ∧ w'.cell? ⟨gb389, 1, none⟩ = some (.slice Ao9 t384.length co9) ∧ w'.cell? ⟨gb389, 2, none⟩ = some (.bool t387) ∧ w'.cell? ⟨gb389, 3, none⟩ = some (.string t388)) (ds := []) #[false, false, false, false, false, false, false, false, false, false, false, false, false] (by kernel_rfl) rfl rfl ⟨(blk_cell BK389.out 0).trans rfl, (blk_cell BK389.out 1).trans rfl, (blk_cell BK389.out 2).trans rfl, (blk_cell BK389.out 3).trans rfl⟩ (fun hHeld => ?_); refine with_tabW laws_FnAddrParts.tab13 laws_FnAddrParts.bits13 (fun HT_ HW_ => ?_)
         generalize wr.drew = w38 at HO_390001 BK389 HB hHeld ⊢
         refine pure_ (i := 0) (N := some 54) (v := ?_) (a' := ?_) #[true, false, false, false, false, false, false, false, false, false, false, false, false] rfl rfl (any_of HT_.out (by kernel_rfl)) (fun _ _ _ h => h) (Or.inl ⟨by rfl, ?_⟩) ?_ ?_
         rotate_left
         ·intro w'
          go_simp
          with_reducible rfl
         rotate_left
         ·simp only [Act.put, List.setIfInBounds_toArray, List.set_cons_zero, List.set_cons_succ, i64_w, i32_w]
          rfl
         refine pure_ (i := 3) (N := some 57) (v := ?_) (a' := ?_) #[true, false, false, true, false, false, false, false, false, false, false, false, false] rfl rfl (any_of HT_.out (by kernel_rfl)) (fun _ _ _ h => h) (Or.inl ⟨by rfl, ?_⟩) ?_ ?_
         rotate_left
         ·intro w'
          go_simp
          with_reducible rfl
         rotate_left
         ·simp only [Act.put, List.setIfInBounds_toArray, List.set_cons_zero, List.set_cons_succ, i64_w, i32_w]
          rfl
         refine take_ (i := 1) (N := some 55) (v := ?_) (a' := ?_) #[true, true, false, true, false, false, false, false, false, false, false, false, false] rfl rfl (take_ofW HT_.out HW_.out (by kernel_rfl)) (fun _ _ _ h => h) (Or.inl ⟨by rfl, ?_⟩) hHeld ?_ ?_
         rotate_left
         ·rintro w' ⟨s0, s1, s2, s3⟩
          go_simp
          with_reducible rfl
         rotate_left
         ·simp only [Act.put, List.setIfInBounds_toArray, List.set_cons_zero, List.set_cons_succ, i64_w, i32_w]
          rfl
         refine take_ (i := 4) (N := some 58) (v := ?_) (a' := ?_) #[true, true, false, true, true, false, false, false, false, false, false, false, false] rfl rfl (take_ofW HT_.out HW_.out (by kernel_rfl)) (fun _ _ _ h => h) (Or.inl ⟨by rfl, ?_⟩) hHeld ?_ ?_
         rotate_left
         ·rintro w' ⟨s0, s1, s2, s3⟩
          go_simp
          with_reducible rfl
         rotate_left
         ·simp only [Act.put, List.setIfInBounds_toArray, List.set_cons_zero, List.set_cons_succ, i64_w, i32_w]
          rfl
         refine one_ (i := 2) (N := some 56) #[true, true, true, true, true, false, false, false, false, false, false, false, false] rfl rfl (one_of HT_.out (by kernel_rfl)) (by decide) (fun K hK => ?_)
         refine goes_ Try.func25 (by kernel_rfl) rfl #[.slice Ao9 t384.length co9] (by rfl) rfl rfl (by (try simp only [List.map_toArray, List.map_cons, List.map_nil]); first | done | rfl | (simp only [List.length_drop, List.length_take]; rfl)) ?_
         with_reducible refine (impl_PathClean.calls k2 _ _ t384 t397 _ ?side1 ?side2 A34.out).mono ?_
         (case side1 => repeat (first | exact (Kd.R_reads' HO_390001.out).2.2 | (with_reducible refine Kd.C_alloc ?_ _) | (with_reducible refine Kd.C_drewN ?_ _) | (with_reducible refine Kd.C_drew ?_)))
         (case side2 => exact (Kd.R_reads' HO_390001.out).2.1)
         rintro e w39 ⟨v398, rfl, ho0, hb⟩
         refine ⟨_, rfl, ?_⟩
         have n0_ := Aside0.mk (Kd.R_elder' (by (with_reducible repeat (first | apply Kd.R_alloc | apply Kd.R_drewN | apply Kd.R_drew)); exact HO_390001.out) (Kd.R_base ho0) hb)
         have n1_ := Aside0.mk (Kd.R_lower (Kd.R_new' ho0 (Kd.R_lt (by (with_reducible repeat (first | apply Kd.R_alloc | apply Kd.R_drewN | apply Kd.R_drew)); exact HO_390001.out))) (below_size (by repeat (first | (with_reducible first | exact HB.out | apply below_alloc | apply pw_below_drewN | apply below_drew1 | refine below_set ?_ GE389.out) | exact HB.out))))
         have n2_ := Aside0.mk (blk_below (g := gb389) (o := .cells #[.string t383, .slice Ao9 t384.length co9, .bool t387, .string t388] 27 (0, 0)) (by (with_reducible repeat (first | refine blk_drewN ?_ _ | refine blk_drew ?_ | refine blk_alloc ?_ _)); exact BK389.out) hb)
         have n3_ := Aside0.mk (below_step (by repeat (first | (with_reducible first | exact HB.out | apply below_alloc | apply pw_below_drewN | apply below_drew1 | refine below_set ?_ GE389.out) | exact HB.out)) hb)
         clear HO_390001
         clear BK389
         clear HB
         have HO_390001 := n0_
         have HO399 := n1_
         have BK389 := n2_
         have HB := n3_
         clear n0_ n1_ n2_ n3_
         (try clear hb)
         (try clear hb2)
         (try clear hk)
         (try clear hi)
         (try clear ho0)
         obtain ⟨Ao40, co40, eo40⟩ := Kd.R_slice HO399.out
         (first | subst eo40 | (injection eo40 with f1_ f2_ f3_; have f4_ := f1_.symm; have f5_ := f3_.symm; clear f1_ f2_ f3_; subst f4_; subst f5_))
         refine hK.out _ _ ⟨(blk_cell BK389.out 0).trans rfl, (blk_cell BK389.out 1).trans rfl, (blk_cell BK389.out 2).trans rfl, (blk_cell BK389.out 3).trans rfl⟩ (fun hHeld => ?_)
         clear hK K
         refine norm_ (a' := ?_) ?_ ?_
         rotate_left
         ·show Act.put _ (some 56) _ = _
          simp only [Act.put, List.setIfInBounds_toArray, List.set_cons_zero, List.set_cons_succ, i64_w, i32_w]
          rfl
         refine one_ (i := 5) (N := some 59) #[true, true, true, true, true, true, false, false, false, false, false, false, false] rfl rfl (one_of HT_.out (by kernel_rfl)) (by decide) (fun K hK => ?_)
         refine goes_ Try.func24 (by kernel_rfl) rfl #[.slice Ao40 t397.length co40, .slice Ao9 t384.length co9] (by rfl) rfl rfl (by (try simp only [List.map_toArray, List.map_cons, List.map_nil]); first | done | rfl | (simp only [List.length_drop, List.length_take]; rfl)) ?_
         with_reducible refine (laws_lpTexts.calls k2 _ _ t397 _ _ t384 true _ ?side1 ?side2 ?side3 ?side4 A35.out).mono ?_
         (case side1 => repeat (first | exact (Kd.R_reads' HO399.out).2.2 | (with_reducible refine Kd.C_alloc ?_ _) | (with_reducible refine Kd.C_drewN ?_ _) | (with_reducible refine Kd.C_drew ?_)))
         (case side2 => exact (Kd.R_reads' HO399.out).2.1)
         (case side3 => repeat (first | exact (Kd.R_reads' HO_390001.out).2.2 | (with_reducible refine Kd.C_alloc ?_ _) | (with_reducible refine Kd.C_drewN ?_ _) | (with_reducible refine Kd.C_drew ?_)))
         (case side4 => exact (Kd.R_reads' HO_390001.out).2.1)
         rintro e w' ⟨rfl, ⟨nd, rfl⟩⟩
         refine ⟨_, rfl, ?_⟩
         refine hK.out _ _ ⟨(blk_cell BK389.out 0).trans rfl, (blk_cell BK389.out 1).trans rfl, (blk_cell BK389.out 2).trans rfl, (blk_cell BK389.out 3).trans rfl⟩ (fun hHeld => ?_)
         clear hK K
         refine norm_ (a' := ?_) ?_ ?_
         rotate_left
         ·show Act.put _ (some 59) _ = _
          simp only [Act.put, List.setIfInBounds_toArray, List.set_cons_zero, List.set_cons_succ, i64_w, i32_w]
          rfl
         refine pure_ (i := 6) (N := some 60) (v := ?_) (a' := ?_) #[true, true, true, true, true, true, true, false, false, false, false, false, false] rfl rfl (any_of HT_.out (by kernel_rfl)) (fun _ _ _ h => h) (Or.inl ⟨by rfl, ?_⟩) ?_ ?_
         rotate_left
         ·intro w'
          go_simp
          with_reducible rfl
         rotate_left
         ·simp only [Act.put, List.setIfInBounds_toArray, List.set_cons_zero, List.set_cons_succ, i64_w, i32_w]
          rfl
         refine pure_ (i := 7) (N := some 61) (v := ?_) (a' := ?_) #[true, true, true, true, true, true, true, true, false, false, false, false, false] rfl rfl (any_of HT_.out (by kernel_rfl)) (fun _ _ _ h => h) (Or.inl ⟨by rfl, ?_⟩) ?_ ?_
         rotate_left
         ·intro w'
          go_simp
          with_reducible rfl
         rotate_left
         ·simp only [Act.put, List.setIfInBounds_toArray, List.set_cons_zero, List.set_cons_succ, i64_w, i32_w]
          rfl
         refine take_ (i := 8) (N := some 62) (v := ?_) (a' := ?_) #[true, true, true, true, true, true, true, true, true, false, false, false, false] rfl rfl (take_ofW HT_.out HW_.out (by kernel_rfl)) (fun _ _ _ h => h) (Or.inl ⟨by rfl, ?_⟩) hHeld ?_ ?_
         rotate_left
         ·rintro w' ⟨s0, s1, s2, s3⟩
          go_simp
          with_reducible rfl
         rotate_left
         ·simp only [Act.put, List.setIfInBounds_toArray, List.set_cons_zero, List.set_cons_succ, i64_w, i32_w]
          rfl
         refine pure_ (i := 9) (N := some 63) (v := ?_) (a' := ?_) #[true, true, true, true, true, true, true, true, true, true, false, false, false] rfl rfl (any_of HT_.out (by kernel_rfl)) (fun _ _ _ h => h) (Or.inl ⟨by rfl, ?_⟩) ?_ ?_
         rotate_left
         ·intro w'
          go_simp
          with_reducible rfl
         rotate_left
         ·simp only [Act.put, List.setIfInBounds_toArray, List.set_cons_zero, List.set_cons_succ, i64_w, i32_w]
          rfl
         refine pure_ (i := 10) (N := some 64) (v := ?_) (a' := ?_) #[true, true, true, true, true, true, true, true, true, true, true, false, false] rfl rfl (any_of HT_.out (by kernel_rfl)) (fun _ _ _ h => h) (Or.inl ⟨by rfl, ?_⟩) ?_ ?_
         rotate_left
         ·intro w'
          go_simp
          with_reducible rfl
         rotate_left
         ·simp only [Act.put, List.setIfInBounds_toArray, List.set_cons_zero, List.set_cons_succ, i64_w, i32_w]
          rfl
         refine pure_ (i := 11) (N := some 65) (v := ?_) (a' := ?_) #[true, true, true, true, true, true, true, true, true, true, true, true, false] rfl rfl (any_of HT_.out (by kernel_rfl)) (fun _ _ _ h => h) (Or.inl ⟨by rfl, ?_⟩) ?_ ?_
         rotate_left
         ·intro w'
          go_simp
          with_reducible rfl
         rotate_left
         ·simp only [Act.put, List.setIfInBounds_toArray, List.set_cons_zero, List.set_cons_succ, i64_w, i32_w]
          rfl
         refine pure_ (i := 12) (N := some 2) (v := ?_) (a' := ?_) #[true, true, true, true, true, true, true, true, true, true, true, true, true] rfl rfl (any_of HT_.out (by kernel_rfl)) (fun _ _ _ h => h) (Or.inl ⟨by rfl, ?_⟩) ?_ ?_
         rotate_left
         ·intro w'
          go_simp
          with_reducible rfl
         rotate_left
         ·simp only [Act.put, List.setIfInBounds_toArray, List.set_cons_zero, List.set_cons_succ, i64_w, i32_w]
          rfl
         refine done_ (done_of HT_.out (by kernel_rfl)) ?_
         try go_wp2
         go_ret
         exact ⟨by first | rfl | (simp <;> rfl) | (simp [*] <;> rfl), by repeat (first | (with_reducible first | exact HB.out | apply below_alloc | apply pw_below_drewN | apply below_drew1 | refine below_set ?_ GE389.out) | exact HB.out)⟩
        ·replace c36 := Bool.eq_false_iff.mpr c36
         subst c36
         have H1 : (some false) = some r := by rw [if_neg (show ¬ (false = true) by decide)] at H; exact H
         clear H
         have H := H1
         clear H1
         obtain rfl := Option.some.inj H
         have hcz41_0 : wr.cell? ⟨gb389, 0, none⟩ = some (.string t383) := (blk_cell BK389.out 0).trans rfl
         have hcz41_1 : wr.cell? ⟨gb389, 1, none⟩ = some (.slice Ao9 t384.length co9) := (blk_cell BK389.out 1).trans rfl
         have hcz41_2 : wr.cell? ⟨gb389, 2, none⟩ = some (.bool t387) := (blk_cell BK389.out 2).trans rfl
         have hcz41_3 : wr.cell? ⟨gb389, 3, none⟩ = some (.string t388) := (blk_cell BK389.out 3).trans rfl
         have hfz41_0 := blk_frozen BK389.out 0
         have hfz41_1 := blk_frozen BK389.out 1
         have hfz41_2 := blk_frozen BK389.out 2
         have hfz41_3 := blk_frozen BK389.out 3
         try go_wp2
         have n0_ := Aside0.mk (Kd.R_drew HO_390001.out)
         have n1_ := Aside0.mk (blk_drew BK389.out)
         have n2_ := Aside0.mk (below_drew1 HB.out)
         clear HO_390001
         clear BK389
         clear HB
         have HO_390001 := n0_
         have BK389 := n1_
         have HB := n2_
         clear n0_ n1_ n2_
         refine start_ (n := 13) (S := fun w' => w'.cell? ⟨gb389, 0, none⟩ = some (.string t383) ∧ w'.cell? ⟨gb389, 1, none⟩ = some (.slice Ao9 t384.length co9) ∧ w'.cell? ⟨gb389, 2, none⟩ = some (.bool t387) ∧ w'.cell? ⟨gb389, 3, none⟩ = some (.string t388)) (ds := []) #[false, false, false, false, false, false, false, false, false, false, false, false, false] (by kernel_rfl) rfl rfl ⟨(blk_cell BK389.out 0).trans rfl, (blk_cell BK389.out 1).trans rfl, (blk_cell BK389.out 2).trans rfl, (blk_cell BK389.out 3).trans rfl⟩ (fun hHeld => ?_); refine with_tabW laws_FnAddrParts.tab13 laws_FnAddrParts.bits13 (fun HT_ HW_ => ?_)
         generalize wr.drew = w42 at HO_390001 BK389 HB hHeld ⊢
         refine pure_ (i := 0) (N := some 54) (v := ?_) (a' := ?_) #[true, false, false, false, false, false, false, false, false, false, false, false, false] rfl rfl (any_of HT_.out (by kernel_rfl)) (fun _ _ _ h => h) (Or.inl ⟨by rfl, ?_⟩) ?_ ?_
         rotate_left
         ·intro w'
          go_simp
          with_reducible rfl
         rotate_left
         ·simp only [Act.put, List.setIfInBounds_toArray, List.set_cons_zero, List.set_cons_succ, i64_w, i32_w]
          rfl
         refine pure_ (i := 3) (N := some 57) (v := ?_) (a' := ?_) #[true, false, false, true, false, false, false, false, false, false, false, false, false] rfl rfl (any_of HT_.out (by kernel_rfl)) (fun _ _ _ h => h) (Or.inl ⟨by rfl, ?_⟩) ?_ ?_
         rotate_left
         ·intro w'
          go_simp
          with_reducible rfl
         rotate_left
         ·simp only [Act.put, List.setIfInBounds_toArray, List.set_cons_zero, List.set_cons_succ, i64_w, i32_w]
          rfl
         refine take_ (i := 1) (N := some 55) (v := ?_) (a' := ?_) #[true, true, false, true, false, false, false, false, false, false, false, false, false] rfl rfl (take_ofW HT_.out HW_.out (by kernel_rfl)) (fun _ _ _ h => h) (Or.inl ⟨by rfl, ?_⟩) hHeld ?_ ?_
         rotate_left
         ·rintro w' ⟨s0, s1, s2, s3⟩
          go_simp
          with_reducible rfl
         rotate_left
         ·simp only [Act.put, List.setIfInBounds_toArray, List.set_cons_zero, List.set_cons_succ, i64_w, i32_w]
          rfl
         refine take_ (i := 4) (N := some 58) (v := ?_) (a' := ?_) #[true, true, false, true, true, false, false, false, false, false, false, false, false] rfl rfl (take_ofW HT_.out HW_.out (by kernel_rfl)) (fun _ _ _ h => h) (Or.inl ⟨by rfl, ?_⟩) hHeld ?_ ?_
         rotate_left
         ·rintro w' ⟨s0, s1, s2, s3⟩
          go_simp
          with_reducible rfl
         rotate_left
         ·simp only [Act.put, List.setIfInBounds_toArray, List.set_cons_zero, List.set_cons_succ, i64_w, i32_w]
          rfl
         refine one_ (i := 2) (N := some 56) #[true, true, true, true, true, false, false, false, false, false, false, false, false] rfl rfl (one_of HT_.out (by kernel_rfl)) (by decide) (fun K hK => ?_)
         refine goes_ Try.func25 (by kernel_rfl) rfl #[.slice Ao9 t384.length co9] (by rfl) rfl rfl (by (try simp only [List.map_toArray, List.map_cons, List.map_nil]); first | done | rfl | (simp only [List.length_drop, List.length_take]; rfl)) ?_
         with_reducible refine (impl_PathClean.calls k2 _ _ t384 t397 _ ?side1 ?side2 A34.out).mono ?_
         (case side1 => repeat (first | exact (Kd.R_reads' HO_390001.out).2.2 | (with_reducible refine Kd.C_alloc ?_ _) | (with_reducible refine Kd.C_drewN ?_ _) | (with_reducible refine Kd.C_drew ?_)))
         (case side2 => exact (Kd.R_reads' HO_390001.out).2.1)
         rintro e w43 ⟨v398, rfl, ho0, hb⟩
         refine ⟨_, rfl, ?_⟩
         have n0_ := Aside0.mk (Kd.R_elder' (by (with_reducible repeat (first | apply Kd.R_alloc | apply Kd.R_drewN | apply Kd.R_drew)); exact HO_390001.out) (Kd.R_base ho0) hb)
         have n1_ := Aside0.mk (Kd.R_lower (Kd.R_new' ho0 (Kd.R_lt (by (with_reducible repeat (first | apply Kd.R_alloc | apply Kd.R_drewN | apply Kd.R_drew)); exact HO_390001.out))) (below_size (by repeat (first | (with_reducible first | exact HB.out | apply below_alloc | apply pw_below_drewN | apply below_drew1 | refine below_set ?_ GE389.out) | exact HB.out))))
         have n2_ := Aside0.mk (blk_below (g := gb389) (o := .cells #[.string t383, .slice Ao9 t384.length co9, .bool t387, .string t388] 27 (0, 0)) (by (with_reducible repeat (first | refine blk_drewN ?_ _ | refine blk_drew ?_ | refine blk_alloc ?_ _)); exact BK389.out) hb)
         have n3_ := Aside0.mk (below_step (by repeat (first | (with_reducible first | exact HB.out | apply below_alloc | apply pw_below_drewN | apply below_drew1 | refine below_set ?_ GE389.out) | exact HB.out)) hb)
         clear HO_390001
         clear BK389
         clear HB
         have HO_390001 := n0_
         have HO399 := n1_
         have BK389 := n2_
         have HB := n3_
         clear n0_ n1_ n2_ n3_
         (try clear hb)
         (try clear hb2)
         (try clear hk)
         (try clear hi)
         (try clear ho0)
         obtain ⟨Ao44, co44, eo44⟩ := Kd.R_slice HO399.out
         (first | subst eo44 | (injection eo44 with f1_ f2_ f3_; have f4_ := f1_.symm; have f5_ := f3_.symm; clear f1_ f2_ f3_; subst f4_; subst f5_))
         refine hK.out _ _ ⟨(blk_cell BK389.out 0).trans rfl, (blk_cell BK389.out 1).trans rfl, (blk_cell BK389.out 2).trans rfl, (blk_cell BK389.out 3).trans rfl⟩ (fun hHeld => ?_)
         clear hK K
         refine norm_ (a' := ?_) ?_ ?_
         rotate_left
         ·show Act.put _ (some 56) _ = _
          simp only [Act.put, List.setIfInBounds_toArray, List.set_cons_zero, List.set_cons_succ, i64_w, i32_w]
          rfl
         refine one_ (i := 5) (N := some 59) #[true, true, true, true, true, true, false, false, false, false, false, false, false] rfl rfl (one_of HT_.out (by kernel_rfl)) (by decide) (fun K hK => ?_)
         refine goes_ Try.func24 (by kernel_rfl) rfl #[.slice Ao44 t397.length co44, .slice Ao9 t384.length co9] (by rfl) rfl rfl (by (try simp only [List.map_toArray, List.map_cons, List.map_nil]); first | done | rfl | (simp only [List.length_drop, List.length_take]; rfl)) ?_
         with_reducible refine (laws_lpTexts.calls k2 _ _ t397 _ _ t384 false _ ?side1 ?side2 ?side3 ?side4 A35.out).mono ?_
         (case side1 => repeat (first | exact (Kd.R_reads' HO399.out).2.2 | (with_reducible refine Kd.C_alloc ?_ _) | (with_reducible refine Kd.C_drewN ?_ _) | (with_reducible refine Kd.C_drew ?_)))
         (case side2 => exact (Kd.R_reads' HO399.out).2.1)
         (case side3 => repeat (first | exact (Kd.R_reads' HO_390001.out).2.2 | (with_reducible refine Kd.C_alloc ?_ _) | (with_reducible refine Kd.C_drewN ?_ _) | (with_reducible refine Kd.C_drew ?_)))
         (case side4 => exact (Kd.R_reads' HO_390001.out).2.1)
         rintro e w' ⟨rfl, ⟨nd, rfl⟩⟩
         refine ⟨_, rfl, ?_⟩
         refine hK.out _ _ ⟨(blk_cell BK389.out 0).trans rfl, (blk_cell BK389.out 1).trans rfl, (blk_cell BK389.out 2).trans rfl, (blk_cell BK389.out 3).trans rfl⟩ (fun hHeld => ?_)
         clear hK K
         refine norm_ (a' := ?_) ?_ ?_
         rotate_left
         ·show Act.put _ (some 59) _ = _
          simp only [Act.put, List.setIfInBounds_toArray, List.set_cons_zero, List.set_cons_succ, i64_w, i32_w]
          rfl
         refine pure_ (i := 6) (N := some 60) (v := ?_) (a' := ?_) #[true, true, true, true, true, true, true, false, false, false, false, false, false] rfl rfl (any_of HT_.out (by kernel_rfl)) (fun _ _ _ h => h) (Or.inl ⟨by rfl, ?_⟩) ?_ ?_
         rotate_left
         ·intro w'
          go_simp
          with_reducible rfl
         rotate_left
         ·simp only [Act.put, List.setIfInBounds_toArray, List.set_cons_zero, List.set_cons_succ, i64_w, i32_w]
          rfl
         refine pure_ (i := 7) (N := some 61) (v := undef) (a' := ?_) #[true, true, true, true, true, true, true, true, false, false, false, false, false] rfl rfl (any_of HT_.out (by kernel_rfl)) (fun _ _ _ h => h) (Or.inr ⟨by rfl, rfl⟩) ?_ ?_
         rotate_left
         ·simp only [Act.put, List.setIfInBounds_toArray, List.set_cons_zero, List.set_cons_succ, i64_w, i32_w]
          rfl
         refine pure_ (i := 8) (N := some 62) (v := undef) (a' := ?_) #[true, true, true, true, true, true, true, true, true, false, false, false, false] rfl rfl (any_of HT_.out (by kernel_rfl)) (fun _ _ _ h => h) (Or.inr ⟨by rfl, rfl⟩) ?_ ?_
         rotate_left
         ·simp only [Act.put, List.setIfInBounds_toArray, List.set_cons_zero, List.set_cons_succ, i64_w, i32_w]
          rfl
         refine pure_ (i := 9) (N := some 63) (v := undef) (a' := ?_) #[true, true, true, true, true, true, true, true, true, true, false, false, false] rfl rfl (any_of HT_.out (by kernel_rfl)) (fun _ _ _ h => h) (Or.inr ⟨by rfl, rfl⟩) ?_ ?_
         rotate_left
         ·simp only [Act.put, List.setIfInBounds_toArray, List.set_cons_zero, List.set_cons_succ, i64_w, i32_w]
          rfl
         refine pure_ (i := 10) (N := some 64) (v := undef) (a' := ?_) #[true, true, true, true, true, true, true, true, true, true, true, false, false] rfl rfl (any_of HT_.out (by kernel_rfl)) (fun _ _ _ h => h) (Or.inr ⟨by rfl, rfl⟩) ?_ ?_
         rotate_left
         ·simp only [Act.put, List.setIfInBounds_toArray, List.set_cons_zero, List.set_cons_succ, i64_w, i32_w]
          rfl
         refine pure_ (i := 11) (N := some 65) (v := ?_) (a' := ?_) #[true, true, true, true, true, true, true, true, true, true, true, true, false] rfl rfl (any_of HT_.out (by kernel_rfl)) (fun _ _ _ h => h) (Or.inl ⟨by rfl, ?_⟩) ?_ ?_
         rotate_left
         ·intro w'
          go_simp
          with_reducible rfl
         rotate_left
         ·simp only [Act.put, List.setIfInBounds_toArray, List.set_cons_zero, List.set_cons_succ, i64_w, i32_w]
          rfl
         refine pure_ (i := 12) (N := some 2) (v := ?_) (a' := ?_) #[true, true, true, true, true, true, true, true, true, true, true, true, true] rfl rfl (any_of HT_.out (by kernel_rfl)) (fun _ _ _ h => h) (Or.inl ⟨by rfl, ?_⟩) ?_ ?_
         rotate_left
         ·intro w'
          go_simp
          with_reducible rfl
         rotate_left
         ·simp only [Act.put, List.setIfInBounds_toArray, List.set_cons_zero, List.set_cons_succ, i64_w, i32_w]
          rfl
         refine done_ (done_of HT_.out (by kernel_rfl)) ?_
         try go_wp2
         go_ret
         exact ⟨by first | rfl | (simp <;> rfl) | (simp [*] <;> rfl), by repeat (first | (with_reducible first | exact HB.out | apply below_alloc | apply pw_below_drewN | apply below_drew1 | refine below_set ?_ GE389.out) | exact HB.out)⟩

/-- THE ONE PURE STATEMENT of laws_FnAddrParts: yours. -/
def laws_FnAddrParts.Pure : Prop := ∀ (l0 : List Int), l0.length ≤ maxLen → l0.length * 1 ≤ 140737488351232 → (∀ x ∈ l0, (Lit.int .u8 x).wf = true) → ∃ k, laws_FnAddrParts.f k l0 = some true
theorem laws_FnAddrParts.walk (P : laws_FnAddrParts.Pure) (a0 : Option Addr) (len0 cap0 : Nat) (z0 : List Int) (w : World) (w0 : (a0 = none ∧ len0 = 0 ∧ cap0 = 0 ∧ z0 = []) ∨ ∃ x, a0 = some x ∧ len0 ≤ cap0 ∧ cap0 ≤ maxLen ∧ z0.length = cap0 ∧ (∀ i, i < z0.length → w.cell? (x.add i) = some (.int .u8 (z0.getD i 0))) ∧ ∀ n ∈ z0, (Lit.int .u8 n).wf = true) (y0 : len0 * 1 ≤ 140737488351232) :
  Calls Try.prog 9 #[.slice a0 len0 cap0] w fun e w' => e = .returned (.bool true) ∧ Below w.heap.size w w' := by
 obtain ⟨l0, rfl, hr0, hm0, hw0, hc0⟩ := ReadsInt.ofRowC w0
 obtain ⟨k, h⟩ := P l0 hm0 y0 hw0
 refine (laws_FnAddrParts.calls k _ _ l0 true w (Kd.C_of_reads (d := (0 : Int)) (h1 := fun _ => rfl) hr0) hc0 h).mono ?_
 rintro e w' ⟨rfl, hd⟩
 exact ⟨rfl, hd⟩

end Go.Proofs.Ytochmlkladpfgaa.P
