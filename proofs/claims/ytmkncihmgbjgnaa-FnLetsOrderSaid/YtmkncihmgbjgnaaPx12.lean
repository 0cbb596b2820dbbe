-- Written by a program of this session (patch_print.py over the kit's print; given texts in wip/given).
import Derived.Test.YtmkncihmgbjgnaaPx0
import Derived.Test.YtmkncihmgbjgnaaPx1
import Derived.Test.YtmkncihmgbjgnaaPx6
import Derived.Test.YtmkncihmgbjgnaaPx10
import Derived.Test.YtmkncihmgbjgnaaPx11
namespace Go.Proofs.Ytmkncihmgbjgnaa.P
open Go.RowKit Go.Proofs.YtmkncihmgbjgnaaW.PrintWords Go.Proofs.YtmkncihmgbjgnaaW.PrintLast Go.Proofs.YtmkncihmgbjgnaaW.PrintMore
attribute [local go_sem] max2_int min2_int max_two min_two max_three min_three max_four min_four   -- for this text's walks alone
set_option linter.unusedVariables false
set_option linter.unusedSimpArgs false
set_option maxHeartbeats 8000000
set_option maxRecDepth 100000

/-! ### spec_DrawRuleHas: function 20 -/
mutual
def spec_DrawRuleHas.j0 : Nat → ByteArray → List Int → Int → Option (ByteArray × ByteArray)
 | 0, _, _, _ => none
 | k + 1, x5, x418000, x418001 => (spec_l71Addr.f k x418000 x418001).bind fun bt422 => ((spec_AddrRead.f k bt422.1).bind fun bt424 => ((spec_AddrPath.f k bt424.1 bt424.2.1 bt424.2.2.1 bt424.2.2.2.1).bind fun t432 => ((spec_l6Rd_pick.f k x418000 bt422.2 2).bind fun bt433 => (if bt433.1 = 0 then (spec_DrawRuleHas.j1 k x5 t432 (t432.toList != ([] : List UInt8)) x418000 bt433.2) else (spec_DrawRuleHas.j1 k x5 t432 false x418000 bt433.2)))))
def spec_DrawRuleHas.j1 : Nat → ByteArray → ByteArray → Bool → List Int → Int → Option (ByteArray × ByteArray)
 | 0, _, _, _, _, _ => none
 | k + 1, x5, x8, x30, x418000, x418001 => if x30 = true then ((spec_l6Rd_pick.f k x418000 x418001 (mn (x8.size : Int) 14)).bind fun bt435 => (if 0 ≤ (wrap64 (1 + bt435.1)) then (if (wrap64 (1 + bt435.1)) ≤ (x8.size : Int) then ((spec_l6Rd_of.f k x418000 bt435.2 (([(⟨#[]⟩ : ByteArray), (⟨#[]⟩ : ByteArray), (⟨#[42]⟩ : ByteArray), (⟨#[36]⟩ : ByteArray)] : List ByteArray))).bind fun bt440 => (if (x8.extract 0 ((wrap64 (1 + bt435.1)) : Int).toNat).size + bt440.1.size ≤ 9223372036854775807 then (some ((x8.extract 0 ((wrap64 (1 + bt435.1)) : Int).toNat) ++ bt440.1, x8)) else (none))) else (none)) else (none))) else (some (x5, x8))
end
def spec_DrawRuleHas.f (k : Nat) (l0 : List Int) : Option (ByteArray × ByteArray) := (spec_l6Open.f l0).bind fun bt415 => ((spec_l71Rule.f k bt415.1 bt415.2).bind fun bt418 => ((spec_l6Rd_pick.f k bt415.1 bt418.2 12).bind fun bt420 => (if bt420.1 = 0 then (spec_DrawRuleHas.j0 k (⟨#[97]⟩ : ByteArray) bt415.1 bt420.2) else (spec_DrawRuleHas.j0 k bt418.1 bt415.1 bt420.2))))
theorem spec_DrawRuleHas.mono_l : ∀ k, (∀ y0 y1 y2, LeO (spec_DrawRuleHas.j0 k y0 y1 y2) (spec_DrawRuleHas.j0 (k + 1) y0 y1 y2)) ∧ (∀ y0 y1 y2 y3 y4, LeO (spec_DrawRuleHas.j1 k y0 y1 y2 y3 y4) (spec_DrawRuleHas.j1 (k + 1) y0 y1 y2 y3 y4))
 | 0 => ⟨fun _ _ _ r h => by simp [spec_DrawRuleHas.j0] at h, fun _ _ _ _ _ r h => by simp [spec_DrawRuleHas.j1] at h⟩
 | k + 1 => by
  obtain ⟨ih0, ih1⟩ := spec_DrawRuleHas.mono_l k
  refine ⟨?_, ?_⟩
  ·intro y0 y1 y2
   unfold spec_DrawRuleHas.j0
   repeat' first
   | (with_reducible exact ih0 _ _ _)
   | (with_reducible exact ih1 _ _ _ _ _)
   | (with_reducible exact spec_AddrPath.mono _ _ _ _ _)
   | (with_reducible exact spec_AddrRead.mono _ _)
   | (with_reducible exact spec_l6Rd_of.mono _ _ _ _)
   | (with_reducible exact spec_l6Rd_pick.mono _ _ _ _)
   | (with_reducible exact spec_l71Addr.mono _ _ _)
   | (with_reducible exact spec_l71Rule.mono _ _ _)
   | (with_reducible exact LeO.refl _)
   | (with_reducible exact LeO.none _)
   | (with_reducible refine LeO.ite ?_ ?_)
   | (with_reducible refine LeO.bind ?_ (fun _ => ?_))
   | exact ih0 _ _ _
   | exact ih1 _ _ _ _ _
   | exact spec_AddrPath.mono _ _ _ _ _
   | exact spec_AddrRead.mono _ _
   | exact spec_l6Rd_of.mono _ _ _ _
   | exact spec_l6Rd_pick.mono _ _ _ _
   | exact spec_l71Addr.mono _ _ _
   | exact spec_l71Rule.mono _ _ _
   | exact LeO.none _
   | refine LeO.ite ?_ ?_
   | refine LeO.bind ?_ (fun _ => ?_)
  ·intro y0 y1 y2 y3 y4
   unfold spec_DrawRuleHas.j1
   repeat' first
   | (with_reducible exact ih0 _ _ _)
   | (with_reducible exact ih1 _ _ _ _ _)
   | (with_reducible exact spec_AddrPath.mono _ _ _ _ _)
   | (with_reducible exact spec_AddrRead.mono _ _)
   | (with_reducible exact spec_l6Rd_of.mono _ _ _ _)
   | (with_reducible exact spec_l6Rd_pick.mono _ _ _ _)
   | (with_reducible exact spec_l71Addr.mono _ _ _)
   | (with_reducible exact spec_l71Rule.mono _ _ _)
   | (with_reducible exact LeO.refl _)
   | (with_reducible exact LeO.none _)
   | (with_reducible refine LeO.ite ?_ ?_)
   | (with_reducible refine LeO.bind ?_ (fun _ => ?_))
   | exact ih0 _ _ _
   | exact ih1 _ _ _ _ _
   | exact spec_AddrPath.mono _ _ _ _ _
   | exact spec_AddrRead.mono _ _
   | exact spec_l6Rd_of.mono _ _ _ _
   | exact spec_l6Rd_pick.mono _ _ _ _
   | exact spec_l71Addr.mono _ _ _
   | exact spec_l71Rule.mono _ _ _
   | exact LeO.none _
   | refine LeO.ite ?_ ?_
   | refine LeO.bind ?_ (fun _ => ?_)
theorem spec_DrawRuleHas.mono : ∀ a0 k, LeO (spec_DrawRuleHas.f k a0) (spec_DrawRuleHas.f (k + 1) a0) := by
 intro a0 k
 obtain ⟨ih0, ih1⟩ := spec_DrawRuleHas.mono_l k
 unfold spec_DrawRuleHas.f
 repeat' first
   | (with_reducible exact ih0 _ _ _)
   | (with_reducible exact ih1 _ _ _ _ _)
   | (with_reducible exact spec_AddrPath.mono _ _ _ _ _)
   | (with_reducible exact spec_AddrRead.mono _ _)
   | (with_reducible exact spec_l6Rd_of.mono _ _ _ _)
   | (with_reducible exact spec_l6Rd_pick.mono _ _ _ _)
   | (with_reducible exact spec_l71Addr.mono _ _ _)
   | (with_reducible exact spec_l71Rule.mono _ _ _)
   | (with_reducible exact LeO.refl _)
   | (with_reducible exact LeO.none _)
   | (with_reducible refine LeO.ite ?_ ?_)
   | (with_reducible refine LeO.bind ?_ (fun _ => ?_))
   | exact ih0 _ _ _
   | exact ih1 _ _ _ _ _
   | exact spec_AddrPath.mono _ _ _ _ _
   | exact spec_AddrRead.mono _ _
   | exact spec_l6Rd_of.mono _ _ _ _
   | exact spec_l6Rd_pick.mono _ _ _ _
   | exact spec_l71Addr.mono _ _ _
   | exact spec_l71Rule.mono _ _ _
   | exact LeO.none _
   | refine LeO.ite ?_ ?_
   | refine LeO.bind ?_ (fun _ => ?_)
def spec_DrawRuleHas.T8 : Bool × List (List Nat × List Nat) := (true, [([], []), ([], []), ([], []), ([2], [2]), ([3], [3]), ([1, 4], [1, 4]), ([5], [5]), ([0, 6], [0, 6]), ([], []), ([], []), ([8, 9, 5], [8, 9]), ([7, 10], [7, 10]), ([11, 10, 0, 1, 2, 3, 4, 5, 6, 7, 8, 9, 10, 11], [11])])
def spec_DrawRuleHas.B8 : List Nat := [0, 0, 0, 4, 12, 30, 62, 127, 0, 0, 830, 2047, 4095]
theorem spec_DrawRuleHas.tab8 : rtab .any (opsOf Try.f20 8) = spec_DrawRuleHas.T8 := by kernel_rfl
theorem spec_DrawRuleHas.bits8 : waitsOk spec_DrawRuleHas.T8.2 spec_DrawRuleHas.B8 = true := by kernel_rfl
theorem spec_DrawRuleHas.calls (k : Nat) (A0 : Option Addr) (c0 : Nat) (l0 : List Int) (r1 : ByteArray) (r2 : ByteArray) (w : World) (hr0 : Kd.C (Kd.int .u8) w A0 l0.length l0) (hc0 : l0.length ≤ c0) (h : spec_DrawRuleHas.f k l0 = some (r1, r2)) :
  Calls Try.prog 20 #[.slice A0 l0.length c0] w fun e w' => e = .returned (.tuple #[.string r1, .string r2]) ∧ Below w.heap.size w w' := by
 have hu53 := Try.underlying53
 have HR0 := Aside0.mk hr0
 have HC0 := Aside0.mk hc0
 clear hr0 hc0
 have HB := Aside0.mk (Below.refl w.heap.size w)
 have H : ((spec_l6Open.f l0).bind fun bt415 => ((spec_l71Rule.f k bt415.1 bt415.2).bind fun bt418 => ((spec_l6Rd_pick.f k bt415.1 bt418.2 12).bind fun bt420 => (if bt420.1 = 0 then (spec_DrawRuleHas.j0 k (⟨#[97]⟩ : ByteArray) bt415.1 bt420.2) else (spec_DrawRuleHas.j0 k bt418.1 bt415.1 bt420.2))))) = some (r1, r2) := h
 clear h
 replace H := Option.bind_eq_some_iff.mp H
 obtain ⟨⟨t415, t416⟩, A20, H⟩ := H
 replace H : ((spec_l71Rule.f k t415 t416).bind fun bt418 => ((spec_l6Rd_pick.f k t415 bt418.2 12).bind fun bt420 => (if bt420.1 = 0 then (spec_DrawRuleHas.j0 k (⟨#[97]⟩ : ByteArray) t415 bt420.2) else (spec_DrawRuleHas.j0 k bt418.1 t415 bt420.2)))) = some (r1, r2) := H
 have A2 := Aside0.mk A20
 clear A20
 replace H := Option.bind_eq_some_iff.mp H
 obtain ⟨⟨t418, t419⟩, A30, H⟩ := H
 replace H : ((spec_l6Rd_pick.f k t415 t419 12).bind fun bt420 => (if bt420.1 = 0 then (spec_DrawRuleHas.j0 k (⟨#[97]⟩ : ByteArray) t415 bt420.2) else (spec_DrawRuleHas.j0 k t418 t415 bt420.2))) = some (r1, r2) := H
 have A3 := Aside0.mk A30
 clear A30
 replace H := Option.bind_eq_some_iff.mp H
 obtain ⟨⟨t420, t421⟩, A40, H⟩ := H
 replace H : (if t420 = 0 then (spec_DrawRuleHas.j0 k (⟨#[97]⟩ : ByteArray) t415 t421) else (spec_DrawRuleHas.j0 k t418 t415 t421)) = some (r1, r2) := H
 have A4 := Aside0.mk A40
 clear A40
 have HC5 := Aside0.mk H
 clear H
 go_enter Try.func20, Try.ntmps20
 go_upto_if 15 with (first | ((with_reducible refine gate_callee (f := 32) rfl ?_); refine goesL_ (some 10) rfl rfl Try.func32 (by kernel_rfl) rfl #[.slice A0 l0.length c0] rfl (by (try simp only [List.map_toArray, List.map_cons, List.map_nil]); first | done | rfl | (simp only [List.length_drop, List.length_take]; rfl)) ?_; (with_reducible refine (spec_l6Open.calls _ _ l0 t415 t416 w _ ?side1 ?side2 ?side3 A2.out).mono ?_); (case side1 => repeat (first | (with_reducible first | exact HB.out | apply below_alloc | apply pw_below_drewN | apply below_drew1) | exact HB.out)); (case side2 => exact HR0.out); (case side3 => exact HC0.out); rintro e w6 ⟨g417, rfl, hi, hb, hb2⟩; refine ⟨_, rfl, ?_⟩; have n0_ := Aside0.mk (hb); have n1_ := Aside0.mk (hi); clear HB; have HB := n0_; have HI417 := n1_; clear n0_ n1_; (try clear hb); (try clear hb2); (try clear hk); (try clear hi)) | ((with_reducible refine gate_callee (f := 33) rfl ?_); refine goesL_ (some 12) rfl rfl Try.func33 (by kernel_rfl) rfl #[.pointer (some ⟨g417, 0, none⟩)] rfl (by (try simp only [List.map_toArray, List.map_cons, List.map_nil]); first | done | rfl | (simp only [List.length_drop, List.length_take]; rfl)) ?_; (with_reducible refine (spec_l71Rule.calls k g417 t415 t416 t418 t419 w _ ?side1 ?side2 A3.out).mono ?_); (case side1 => repeat (first | (with_reducible first | exact HI417.out | apply IsS65.alloc | apply IsS65.drewN | apply IsS65.drew | apply IsS65.set_1) | exact HI417.out)); (case side2 => repeat (first | (with_reducible first | exact HB.out | apply below_alloc | apply pw_below_drewN | apply below_drew1 | refine below_set ?_ (IsS65.ge HI417.out)) | exact HB.out)); rintro e w7 ⟨rfl, hi, hb, hk⟩; refine ⟨_, rfl, ?_⟩; have n0_ := Aside0.mk (hb); have n1_ := Aside0.mk (hi); clear HB; clear HI417; have HB := n0_; have HI417 := n1_; clear n0_ n1_; (try clear hb); (try clear hb2); (try clear hk); (try clear hi)) | ((with_reducible refine gate_callee (f := 34) rfl ?_); refine goesL_ (some 14) rfl rfl Try.func34 (by kernel_rfl) rfl #[.pointer (some ⟨g417, 0, none⟩), .int .i64 12] rfl (by (try simp only [List.map_toArray, List.map_cons, List.map_nil]); first | done | rfl | (simp only [List.length_drop, List.length_take]; rfl)) ?_; (with_reducible refine (spec_l6Rd_pick.calls k g417 t415 t419 12 t420 t421 w _ ?side1 ?side2 A4.out).mono ?_); (case side1 => repeat (first | (with_reducible first | exact HI417.out | apply IsS65.alloc | apply IsS65.drewN | apply IsS65.drew | apply IsS65.set_1) | exact HI417.out)); (case side2 => repeat (first | (with_reducible first | exact HB.out | apply below_alloc | apply pw_below_drewN | apply below_drew1 | refine below_set ?_ (IsS65.ge HI417.out)) | exact HB.out)); rintro e w8 ⟨rfl, hi, hb, hk⟩; refine ⟨_, rfl, ?_⟩; have n0_ := Aside0.mk (hb); have n1_ := Aside0.mk (hi); clear HB; clear HI417; have HB := n0_; have HI417 := n1_; clear n0_ n1_; (try clear hb); (try clear hb2); (try clear hk); (try clear hi)))
 (try simp only [Act.put, List.setIfInBounds_toArray, List.set_cons_zero, List.set_cons_succ])
 go_cut [5] (fun v5 wc => ∃ (kq : Nat) (x5_4 : ByteArray), v5 = .string x5_4 ∧ Aside0 (spec_DrawRuleHas.j0 kq x5_4 t415 t421 = some (r1, r2)) ∧ Aside0 (kq ≤ k) ∧ Aside0 (IsS65 w wc g417 t415 t421) ∧ Aside0 (Below w.heap.size w wc))
 case first =>
  have H := HC5.out
  clear HC5
  by_cases c9 : t420 = 0
  ·rw [if_pos c9] at H
   have c9b0 : (t420 == 0) = true := beq_iff_eq.mpr c9
   have c9b1 : (t420 != 0) = false := bne_eq_false_iff_eq.mpr c9
   clear c9
   (first | rw [c9b0] | (simp only [i64_w, i32_w]; rw [c9b0]) | skip)
   have H' := Aside0.mk H
   clear H
   go_wp2
   go_meet
   case rel => exact ⟨_, ((⟨#[97]⟩ : ByteArray)), (by first | rfl | (simp; done) | (simp only [i64_w, i32_w]; done) | (simp only [i64_w, i32_w]; rfl) | (simp [*]; done) | (simp [emp_bne, emp_beq]; done)), H', ⟨by first | omega | exact Nat.le_refl _⟩, ⟨by repeat (first | (with_reducible first | exact HI417.out | apply IsS65.alloc | apply IsS65.drewN | apply IsS65.drew | apply IsS65.set_1) | exact HI417.out)⟩, ⟨by repeat (first | (with_reducible first | exact HB.out | apply below_alloc | apply pw_below_drewN | apply below_drew1 | refine below_set ?_ (IsS65.ge HI417.out)) | exact HB.out)⟩⟩
  ·rw [if_neg c9] at H
   have c9b0 : (t420 == 0) = false := beq_eq_false_iff_ne.mpr c9
   have c9b1 : (t420 != 0) = true := bne_iff_ne.mpr c9
   (first | rw [c9b0] | (simp only [i64_w, i32_w]; rw [c9b0]) | skip)
   have H' := Aside0.mk H
   clear H
   go_wp2
   go_meet
   case rel => exact ⟨_, (t418), (by first | rfl | (simp; done) | (simp only [i64_w, i32_w]; done) | (simp only [i64_w, i32_w]; rfl) | (simp [*]; done) | (simp [emp_bne, emp_beq]; done)), H', ⟨by first | omega | exact Nat.le_refl _⟩, ⟨by repeat (first | (with_reducible first | exact HI417.out | apply IsS65.alloc | apply IsS65.drewN | apply IsS65.drew | apply IsS65.set_1) | exact HI417.out)⟩, ⟨by repeat (first | (with_reducible first | exact HB.out | apply below_alloc | apply pw_below_drewN | apply below_drew1 | refine below_set ?_ (IsS65.ge HI417.out)) | exact HB.out)⟩⟩
 case rest =>
  clear HC5
  try clear c2
  try clear p2
  try clear c3
  try clear c9
  try clear c9b0
  try clear c9b1
  obtain ⟨kq, x5_4, rfl, HA, HJ4, HI417, HB⟩ := hcut
  cases kq with
  | zero => exact absurd HA.out (by simp [spec_DrawRuleHas.j0])
  | succ kj4 =>
   have H := HA.out
   clear HA
   simp only [spec_DrawRuleHas.j0] at H
   replace H := Option.bind_eq_some_iff.mp H
   obtain ⟨⟨t422, t423⟩, A100, H⟩ := H
   replace H : ((spec_AddrRead.f kj4 t422).bind fun bt424 => ((spec_AddrPath.f kj4 bt424.1 bt424.2.1 bt424.2.2.1 bt424.2.2.2.1).bind fun t432 => ((spec_l6Rd_pick.f kj4 t415 t423 2).bind fun bt433 => (if bt433.1 = 0 then (spec_DrawRuleHas.j1 kj4 x5_4 t432 (t432.toList != ([] : List UInt8)) t415 bt433.2) else (spec_DrawRuleHas.j1 kj4 x5_4 t432 false t415 bt433.2))))) = some (r1, r2) := H
   have A10 := Aside0.mk A100
   clear A100
   replace H := Option.bind_eq_some_iff.mp H
   obtain ⟨⟨t424, t425, t428, t429, t430⟩, A110, H⟩ := H
   replace H : ((spec_AddrPath.f kj4 t424 t425 t428 t429).bind fun t432 => ((spec_l6Rd_pick.f kj4 t415 t423 2).bind fun bt433 => (if bt433.1 = 0 then (spec_DrawRuleHas.j1 kj4 x5_4 t432 (t432.toList != ([] : List UInt8)) t415 bt433.2) else (spec_DrawRuleHas.j1 kj4 x5_4 t432 false t415 bt433.2)))) = some (r1, r2) := H
   have A11 := Aside0.mk A110
   clear A110
   replace H := Option.bind_eq_some_iff.mp H
   obtain ⟨t432, A120, H⟩ := H
   replace H : ((spec_l6Rd_pick.f kj4 t415 t423 2).bind fun bt433 => (if bt433.1 = 0 then (spec_DrawRuleHas.j1 kj4 x5_4 t432 (t432.toList != ([] : List UInt8)) t415 bt433.2) else (spec_DrawRuleHas.j1 kj4 x5_4 t432 false t415 bt433.2))) = some (r1, r2) := H
   have A12 := Aside0.mk A120
   clear A120
   have HC13 := Aside0.mk H
   clear H
   go_upto_region 7 with (first | ((with_reducible refine gate_callee (f := 36) rfl ?_); refine goesL_ (some 18) rfl rfl Try.func36 (by kernel_rfl) rfl #[.pointer (some ⟨g417, 0, none⟩)] rfl (by (try simp only [List.map_toArray, List.map_cons, List.map_nil]); first | done | rfl | (simp only [List.length_drop, List.length_take]; rfl)) ?_; (with_reducible refine (spec_l71Addr.calls kj4 g417 t415 t421 t422 t423 w _ ?side1 ?side2 A10.out).mono ?_); (case side1 => repeat (first | (with_reducible first | exact HI417.out | apply IsS65.alloc | apply IsS65.drewN | apply IsS65.drew | apply IsS65.set_1) | exact HI417.out)); (case side2 => repeat (first | (with_reducible first | exact HB.out | apply below_alloc | apply pw_below_drewN | apply below_drew1 | refine below_set ?_ (IsS65.ge HI417.out)) | exact HB.out)); rintro e w14 ⟨rfl, hi, hb, hk⟩; refine ⟨_, rfl, ?_⟩; have n0_ := Aside0.mk (hb); have n1_ := Aside0.mk (hi); clear HB; clear HI417; have HB := n0_; have HI417 := n1_; clear n0_ n1_; (try clear hb); (try clear hb2); (try clear hk); (try clear hi)) | ((with_reducible refine gate_callee (f := 35) rfl ?_); refine goesL_ (some 19) rfl rfl Try.func35 (by kernel_rfl) rfl #[.string t422] rfl (by (try simp only [List.map_toArray, List.map_cons, List.map_nil]); first | done | rfl | (simp only [List.length_drop, List.length_take]; rfl)) ?_; (with_reducible refine (spec_AddrRead.calls kj4 t422 t424 t425 t428 t429 t430 _ A11.out).mono ?_); rintro e w15 ⟨v426, rfl, ho0, hb⟩; refine ⟨_, rfl, ?_⟩; have n0_ := Aside0.mk (Kd.R_lower ho0 (below_size (by repeat (first | (with_reducible first | exact HB.out | apply below_alloc | apply pw_below_drewN | apply below_drew1 | refine below_set ?_ (IsS65.ge HI417.out)) | exact HB.out)))); have n1_ := Aside0.mk (IsS65.below (by repeat (first | (with_reducible first | exact HI417.out | apply IsS65.alloc | apply IsS65.drewN | apply IsS65.drew | apply IsS65.set_1) | exact HI417.out)) hb); have n2_ := Aside0.mk (below_step (by repeat (first | (with_reducible first | exact HB.out | apply below_alloc | apply pw_below_drewN | apply below_drew1 | refine below_set ?_ (IsS65.ge HI417.out)) | exact HB.out)) hb); clear HI417; clear HB; have HO427 := n0_; have HI417 := n1_; have HB := n2_; clear n0_ n1_ n2_; (try clear hb); (try clear hb2); (try clear hk); (try clear hi); (try clear ho0)) | ((with_reducible refine gate_dst (N := 6) rfl ?_); refine box_event ?hg (N := 6) ?hd (cs := #[.string (⟨#[]⟩ : ByteArray), .slice none 0 0, .bool false, .string (⟨#[]⟩ : ByteArray)]) (t := 53) ?hr ?_; (case hd => rfl); (case hg => rfl); (case hr => first | (go_simp; done) | (go_simp; rfl)); intro gb431 hg w16 hbox hb; have n0_ := Aside0.mk (Kd.R_below (by (with_reducible repeat (first | apply Kd.R_alloc | apply Kd.R_drewN | apply Kd.R_drew)); exact HO427.out) hb); have n1_ := Aside0.mk (IsS65.below (by repeat (first | (with_reducible first | exact HI417.out | apply IsS65.alloc | apply IsS65.drewN | apply IsS65.drew | apply IsS65.set_1) | exact HI417.out)) hb); have n2_ := Aside0.mk (below_step (by repeat (first | (with_reducible first | exact HB.out | apply below_alloc | apply pw_below_drewN | apply below_drew1 | refine below_set ?_ (IsS65.ge HI417.out)) | exact HB.out)) hb); have n3_ := Aside0.mk (hbox); have n4_ := Aside0.mk ((by rw [hg]; exact (below_size (by repeat (first | (with_reducible first | exact HB.out | apply below_alloc | apply pw_below_drewN | apply below_drew1 | refine below_set ?_ (IsS65.ge HI417.out)) | exact HB.out))) : w.heap.size ≤ gb431)); have n5_ := n4_; have n6_ := Aside0.mk ((by rw [hg]; exact Nat.ne_of_lt (IsS65.lt (show IsS65 w _ g417 t415 t423 from by repeat (first | (with_reducible first | exact HI417.out | apply IsS65.alloc | apply IsS65.drewN | apply IsS65.drew | apply IsS65.set_1) | exact HI417.out))) : g417 ≠ gb431)); have n7_ := Aside0.mk ((by rw [hg]; exact Nat.ne_of_gt (IsS65.lt (show IsS65 w _ g417 t415 t423 from by repeat (first | (with_reducible first | exact HI417.out | apply IsS65.alloc | apply IsS65.drewN | apply IsS65.drew | apply IsS65.set_1) | exact HI417.out))) : gb431 ≠ g417)); clear HO427; clear HI417; clear HB; have HO427 := n0_; have HI417 := n1_; have HB := n2_; have BK431 := n3_; have GW431 := n4_; have GE431 := n5_; have NB417_431 := n6_; have NB431_417 := n7_; clear n0_ n1_ n2_ n3_ n4_ n5_ n6_ n7_; clear hb hbox hg; have hnb17 := NB431_417.out; have hnc17 := NB417_431.out; have hcz18_0 : w16.cell? ⟨gb431, 0, none⟩ = some (.string (⟨#[]⟩ : ByteArray)) := (blk_cell BK431.out 0).trans rfl; have hcz18_1 : w16.cell? ⟨gb431, 1, none⟩ = some (.slice none 0 0) := (blk_cell BK431.out 1).trans rfl; have hcz18_2 : w16.cell? ⟨gb431, 2, none⟩ = some (.bool false) := (blk_cell BK431.out 2).trans rfl; have hcz18_3 : w16.cell? ⟨gb431, 3, none⟩ = some (.string (⟨#[]⟩ : ByteArray)) := (blk_cell BK431.out 3).trans rfl; have hfz18_0 := blk_frozen BK431.out 0; have hfz18_1 := blk_frozen BK431.out 1; have hfz18_2 := blk_frozen BK431.out 2; have hfz18_3 := blk_frozen BK431.out 3; obtain ⟨Ao19, co19, eo19⟩ := Kd.R_slice HO427.out; subst eo19) | ((with_reducible refine gate_callee (f := 37) rfl ?_); refine goesL_ (some 23) rfl rfl Try.func37 (by kernel_rfl) rfl #[.agg #[.string t424, .slice Ao19 t425.length co19, .bool t428, .string t429]] rfl (by (try simp only [List.map_toArray, List.map_cons, List.map_nil]); first | done | rfl | (simp only [List.length_drop, List.length_take]; rfl)) ?_; (with_reducible refine (spec_AddrPath.calls kj4 t424 _ _ t425 t428 t429 t432 _ ?side1 ?side2 A12.out).mono ?_); (case side1 => refine (Kd.R_reads' (e := 9) (base := w.heap.size) (ok := fun k_ => True) (n := t425.length) (c := co19) ?_).2.2; exact (by (with_reducible repeat (first | apply Kd.R_alloc | apply Kd.R_drewN | apply Kd.R_drew)); exact (Kd.R_mono (Kd.R_far (p := ⟨gb431, 3, none⟩) (Kd.R_far (p := ⟨gb431, 2, none⟩) (Kd.R_far (p := ⟨gb431, 1, none⟩) (Kd.R_far (p := ⟨gb431, 0, none⟩) (Kd.R_types HO427.out BK431.out (by decide)) (fun _ hk => by first | exact hk.2 | exact trivial) (.string t424)) (fun _ hk => by first | exact hk.2 | exact trivial) (.slice Ao19 t425.length co19)) (fun _ hk => by first | exact hk.2 | exact trivial) (.bool t428)) (fun _ hk => by first | exact hk.2 | exact trivial) (.string t429)) (fun _ h_ => h_.1)))); (case side2 => exact (Kd.R_reads' HO427.out).2.1); rintro e w20 ⟨rfl, hb⟩; refine ⟨_, rfl, ?_⟩; have n0_ := Aside0.mk (Kd.R_below (by (with_reducible repeat (first | apply Kd.R_alloc | apply Kd.R_drewN | apply Kd.R_drew)); exact (Kd.R_mono (Kd.R_far (p := ⟨gb431, 3, none⟩) (Kd.R_far (p := ⟨gb431, 2, none⟩) (Kd.R_far (p := ⟨gb431, 1, none⟩) (Kd.R_far (p := ⟨gb431, 0, none⟩) (Kd.R_types HO427.out BK431.out (by decide)) (fun _ hk => by first | exact hk.2 | exact trivial) (.string t424)) (fun _ hk => by first | exact hk.2 | exact trivial) (.slice Ao19 t425.length co19)) (fun _ hk => by first | exact hk.2 | exact trivial) (.bool t428)) (fun _ hk => by first | exact hk.2 | exact trivial) (.string t429)) (fun _ h_ => h_.1))) hb); have n1_ := Aside0.mk (IsS65.below (show IsS65 w ((((w16.setCell ⟨gb431, 0, none⟩ (.string t424)).setCell ⟨gb431, 1, none⟩ (.slice Ao19 t425.length co19)).setCell ⟨gb431, 2, none⟩ (.bool t428)).setCell ⟨gb431, 3, none⟩ (.string t429)) g417 t415 t423 from by repeat (first | (with_reducible first | exact HI417.out | apply IsS65.alloc | apply IsS65.drewN | apply IsS65.drew | apply IsS65.set_1 | refine IsS65.far ?_ NB417_431.out _) | exact HI417.out)) hb); have n2_ := Aside0.mk (blk_below (g := gb431) (o := .cells #[.string t424, .slice Ao19 t425.length co19, .bool t428, .string t429] 53 (0, 0)) (by (with_reducible repeat (first | refine blk_drewN ?_ _ | refine blk_drew ?_ | refine blk_alloc ?_ _)); refine blk_put (cs := #[.string t424, .slice Ao19 t425.length co19, .bool t428, .string (⟨#[]⟩ : ByteArray)]) ?_ 3 _ rfl; (with_reducible repeat (first | refine blk_drewN ?_ _ | refine blk_drew ?_ | refine blk_alloc ?_ _)); refine blk_put (cs := #[.string t424, .slice Ao19 t425.length co19, .bool false, .string (⟨#[]⟩ : ByteArray)]) ?_ 2 _ rfl; (with_reducible repeat (first | refine blk_drewN ?_ _ | refine blk_drew ?_ | refine blk_alloc ?_ _)); refine blk_put (cs := #[.string t424, .slice none 0 0, .bool false, .string (⟨#[]⟩ : ByteArray)]) ?_ 1 _ rfl; (with_reducible repeat (first | refine blk_drewN ?_ _ | refine blk_drew ?_ | refine blk_alloc ?_ _)); refine blk_put (cs := #[.string (⟨#[]⟩ : ByteArray), .slice none 0 0, .bool false, .string (⟨#[]⟩ : ByteArray)]) ?_ 0 _ rfl; (with_reducible repeat (first | refine blk_drewN ?_ _ | refine blk_drew ?_ | refine blk_alloc ?_ _)); exact BK431.out) hb); have n3_ := Aside0.mk (below_step (by repeat (first | (with_reducible first | exact HB.out | apply below_alloc | apply pw_below_drewN | apply below_drew1 | refine below_set ?_ (IsS65.ge HI417.out) | refine below_set ?_ GE431.out) | exact HB.out)) hb); clear HO427; clear HI417; clear BK431; clear HB; have HO427 := n0_; have HI417 := n1_; have BK431 := n2_; have HB := n3_; clear n0_ n1_ n2_ n3_; (try clear hb); (try clear hb2); (try clear hk); (try clear hi)))
   (try simp only [Act.put, List.setIfInBounds_toArray, List.set_cons_zero, List.set_cons_succ])
   go_cut [30] (fun v30 wc => ∃ (kq : Nat) (x30_12 : Bool) (x418001_12 : Int), v30 = .bool x30_12 ∧ Aside0 (spec_DrawRuleHas.j1 kq x5_4 t432 x30_12 t415 x418001_12 = some (r1, r2)) ∧ Aside0 (kq ≤ kj4) ∧ Aside0 (Kd.R Kd.string 9 wc w.heap.size (fun _ => True) (.slice Ao19 t425.length co19) t425) ∧ Aside0 (wc.heap[gb431]? = some (.cells #[.string t424, (.slice Ao19 t425.length co19), .bool t428, .string t429] 53 (0, 0))) ∧ Aside0 (IsS65 w wc g417 t415 x418001_12) ∧ Aside0 (Below w.heap.size w wc))
   case first =>
    have H := HC13.out
    clear HC13
    replace H := Option.bind_eq_some_iff.mp H
    obtain ⟨⟨t433, t434⟩, A210, H⟩ := H
    replace H : (if t433 = 0 then (spec_DrawRuleHas.j1 kj4 x5_4 t432 (t432.toList != ([] : List UInt8)) t415 t434) else (spec_DrawRuleHas.j1 kj4 x5_4 t432 false t415 t434)) = some (r1, r2) := H
    have A21 := Aside0.mk A210
    clear A210
    by_cases c22 : t433 = 0
    ·rw [if_pos c22] at H
     have c22b0 : (t433 == 0) = true := beq_iff_eq.mpr c22
     have c22b1 : (t433 != 0) = false := bne_eq_false_iff_eq.mpr c22
     clear c22
     (first | rw [c22b0] | (simp only [i64_w, i32_w]; rw [c22b0]) | skip)
     have H' := Aside0.mk H
     clear H
     go_wp2_with (first | ((with_reducible refine gate_callee (f := 34) rfl ?_); refine goesL_ (some 25) rfl rfl Try.func34 (by kernel_rfl) rfl #[.pointer (some ⟨g417, 0, none⟩), .int .i64 2] rfl (by (try simp only [List.map_toArray, List.map_cons, List.map_nil]); first | done | rfl | (simp only [List.length_drop, List.length_take]; rfl)) ?_; (with_reducible refine (spec_l6Rd_pick.calls kj4 g417 t415 t423 2 t433 t434 w _ ?side1 ?side2 A21.out).mono ?_); (case side1 => repeat (first | (with_reducible first | exact HI417.out | apply IsS65.alloc | apply IsS65.drewN | apply IsS65.drew | apply IsS65.set_1 | refine IsS65.far ?_ NB417_431.out _) | exact HI417.out)); (case side2 => repeat (first | (with_reducible first | exact HB.out | apply below_alloc | apply pw_below_drewN | apply below_drew1 | refine below_set ?_ (IsS65.ge HI417.out) | refine below_set ?_ GE431.out) | exact HB.out)); rintro e w23 ⟨rfl, hi, hb, hk⟩; refine ⟨_, rfl, ?_⟩; have n0_ := Aside0.mk (Kd.R_mono (Kd.R_keep (IsS65.apart (show IsS65 w _ g417 t415 t423 from by repeat (first | (with_reducible first | exact HI417.out | apply IsS65.alloc | apply IsS65.drewN | apply IsS65.drew | apply IsS65.set_1 | refine IsS65.far ?_ NB417_431.out _) | exact HI417.out)) (by (with_reducible repeat (first | apply Kd.R_alloc | apply Kd.R_drewN | apply Kd.R_drew)); exact HO427.out) (by decide)) hk (fun _ h => h.2)) (fun _ h => h.1)); have n1_ := Aside0.mk (KeepBut.blk hk (g' := gb431) (o := .cells #[.string t424, .slice Ao19 t425.length co19, .bool t428, .string t429] 53 (0, 0)) (by (with_reducible repeat (first | refine blk_drewN ?_ _ | refine blk_drew ?_ | refine blk_alloc ?_ _)); exact BK431.out) NB431_417.out (by simp)); have n2_ := Aside0.mk (hb); have n3_ := Aside0.mk (hi); clear HO427; clear BK431; clear HB; clear HI417; have HO427 := n0_; have BK431 := n1_; have HB := n2_; have HI417 := n3_; clear n0_ n1_ n2_ n3_; (try clear hb); (try clear hb2); (try clear hk); (try clear hi)))
     go_meet
     case rel => exact ⟨_, ((t432.toList != ([] : List UInt8))), (t434), (by first | rfl | (simp; done) | (simp only [i64_w, i32_w]; done) | (simp only [i64_w, i32_w]; rfl) | (simp [*]; done) | (simp [emp_bne, emp_beq]; done)), H', ⟨by have := HJ4.out; first | omega | exact Nat.le_refl _⟩, ⟨by (with_reducible repeat (first | apply Kd.R_alloc | apply Kd.R_drewN | apply Kd.R_drew)); exact HO427.out⟩, ⟨by (with_reducible repeat (first | refine blk_drewN ?_ _ | refine blk_drew ?_ | refine blk_alloc ?_ _)); exact BK431.out⟩, ⟨by repeat (first | (with_reducible first | exact HI417.out | apply IsS65.alloc | apply IsS65.drewN | apply IsS65.drew | apply IsS65.set_1 | refine IsS65.far ?_ NB417_431.out _) | exact HI417.out)⟩, ⟨by repeat (first | (with_reducible first | exact HB.out | apply below_alloc | apply pw_below_drewN | apply below_drew1 | refine below_set ?_ (IsS65.ge HI417.out) | refine below_set ?_ GE431.out) | exact HB.out)⟩⟩
    ·rw [if_neg c22] at H
     have c22b0 : (t433 == 0) = false := beq_eq_false_iff_ne.mpr c22
     have c22b1 : (t433 != 0) = true := bne_iff_ne.mpr c22
     (first | rw [c22b0] | (simp only [i64_w, i32_w]; rw [c22b0]) | skip)
     have H' := Aside0.mk H
     clear H
     go_wp2_with (first | ((with_reducible refine gate_callee (f := 34) rfl ?_); refine goesL_ (some 25) rfl rfl Try.func34 (by kernel_rfl) rfl #[.pointer (some ⟨g417, 0, none⟩), .int .i64 2] rfl (by (try simp only [List.map_toArray, List.map_cons, List.map_nil]); first | done | rfl | (simp only [List.length_drop, List.length_take]; rfl)) ?_; (with_reducible refine (spec_l6Rd_pick.calls kj4 g417 t415 t423 2 t433 t434 w _ ?side1 ?side2 A21.out).mono ?_); (case side1 => repeat (first | (with_reducible first | exact HI417.out | apply IsS65.alloc | apply IsS65.drewN | apply IsS65.drew | apply IsS65.set_1 | refine IsS65.far ?_ NB417_431.out _) | exact HI417.out)); (case side2 => repeat (first | (with_reducible first | exact HB.out | apply below_alloc | apply pw_below_drewN | apply below_drew1 | refine below_set ?_ (IsS65.ge HI417.out) | refine below_set ?_ GE431.out) | exact HB.out)); rintro e w24 ⟨rfl, hi, hb, hk⟩; refine ⟨_, rfl, ?_⟩; have n0_ := Aside0.mk (Kd.R_mono (Kd.R_keep (IsS65.apart (show IsS65 w _ g417 t415 t423 from by repeat (first | (with_reducible first | exact HI417.out | apply IsS65.alloc | apply IsS65.drewN | apply IsS65.drew | apply IsS65.set_1 | refine IsS65.far ?_ NB417_431.out _) | exact HI417.out)) (by (with_reducible repeat (first | apply Kd.R_alloc | apply Kd.R_drewN | apply Kd.R_drew)); exact HO427.out) (by decide)) hk (fun _ h => h.2)) (fun _ h => h.1)); have n1_ := Aside0.mk (KeepBut.blk hk (g' := gb431) (o := .cells #[.string t424, .slice Ao19 t425.length co19, .bool t428, .string t429] 53 (0, 0)) (by (with_reducible repeat (first | refine blk_drewN ?_ _ | refine blk_drew ?_ | refine blk_alloc ?_ _)); exact BK431.out) NB431_417.out (by simp)); have n2_ := Aside0.mk (hb); have n3_ := Aside0.mk (hi); clear HO427; clear BK431; clear HB; clear HI417; have HO427 := n0_; have BK431 := n1_; have HB := n2_; have HI417 := n3_; clear n0_ n1_ n2_ n3_; (try clear hb); (try clear hb2); (try clear hk); (try clear hi)))
     go_meet
     case rel => exact ⟨_, (false), (t434), (by first | rfl | (simp; done) | (simp only [i64_w, i32_w]; done) | (simp only [i64_w, i32_w]; rfl) | (simp [*]; done) | (simp [emp_bne, emp_beq]; done)), H', ⟨by have := HJ4.out; first | omega | exact Nat.le_refl _⟩, ⟨by (with_reducible repeat (first | apply Kd.R_alloc | apply Kd.R_drewN | apply Kd.R_drew)); exact HO427.out⟩, ⟨by (with_reducible repeat (first | refine blk_drewN ?_ _ | refine blk_drew ?_ | refine blk_alloc ?_ _)); exact BK431.out⟩, ⟨by repeat (first | (with_reducible first | exact HI417.out | apply IsS65.alloc | apply IsS65.drewN | apply IsS65.drew | apply IsS65.set_1 | refine IsS65.far ?_ NB417_431.out _) | exact HI417.out)⟩, ⟨by repeat (first | (with_reducible first | exact HB.out | apply below_alloc | apply pw_below_drewN | apply below_drew1 | refine below_set ?_ (IsS65.ge HI417.out) | refine below_set ?_ GE431.out) | exact HB.out)⟩⟩
   case rest =>
    clear HC13
    try clear c1
    try clear c2
    try clear p2
    try clear c3
    try clear c9
    try clear c9b0
    try clear c9b1
    try clear c17
    try clear c20
    try clear c22
    try clear c22b0
    try clear c22b1
    try clear hcz18_0
    try clear hcz18_1
    try clear hcz18_2
    try clear hcz18_3
    try clear hfz18_0
    try clear hfz18_1
    try clear hfz18_2
    try clear hfz18_3
    try clear p2
    obtain ⟨kq, x30_12, x418001_12, rfl, HA, HJ12, HO_432001, BK431, HI417, HB⟩ := hcut
    cases kq with
    | zero => exact absurd HA.out (by simp [spec_DrawRuleHas.j1])
    | succ kj12 =>
     have H := HA.out
     clear HA
     simp only [spec_DrawRuleHas.j1] at H
     by_cases c25 : x30_12 = true
     ·subst c25
      have H1 : ((spec_l6Rd_pick.f kj12 t415 x418001_12 (mn (t432.size : Int) 14)).bind fun bt435 => (if 0 ≤ (wrap64 (1 + bt435.1)) then (if (wrap64 (1 + bt435.1)) ≤ (t432.size : Int) then ((spec_l6Rd_of.f kj12 t415 bt435.2 (([(⟨#[]⟩ : ByteArray), (⟨#[]⟩ : ByteArray), (⟨#[42]⟩ : ByteArray), (⟨#[36]⟩ : ByteArray)] : List ByteArray))).bind fun bt440 => (if (t432.extract 0 ((wrap64 (1 + bt435.1)) : Int).toNat).size + bt440.1.size ≤ 9223372036854775807 then (some ((t432.extract 0 ((wrap64 (1 + bt435.1)) : Int).toNat) ++ bt440.1, t432)) else (none))) else (none)) else (none))) = some (r1, r2) := by rw [if_pos rfl] at H; exact H
      clear H
      have H := H1
      clear H1
      obtain ⟨ji26, hji26⟩ : ∃ j_ : Int, (mn (t432.size : Int) 14) = j_ := ⟨_, rfl⟩
      replace H : ((spec_l6Rd_pick.f kj12 t415 x418001_12 (ji26)).bind fun bt435 => (if 0 ≤ (wrap64 (1 + bt435.1)) then (if (wrap64 (1 + bt435.1)) ≤ (t432.size : Int) then ((spec_l6Rd_of.f kj12 t415 bt435.2 (([(⟨#[]⟩ : ByteArray), (⟨#[]⟩ : ByteArray), (⟨#[42]⟩ : ByteArray), (⟨#[36]⟩ : ByteArray)] : List ByteArray))).bind fun bt440 => (if (t432.extract 0 ((wrap64 (1 + bt435.1)) : Int).toNat).size + bt440.1.size ≤ 9223372036854775807 then (some ((t432.extract 0 ((wrap64 (1 + bt435.1)) : Int).toNat) ++ bt440.1, t432)) else (none))) else (none)) else (none))) = some (r1, r2) := by first | (rw [hji26] at H; exact H) | (simp only [hji26] at H ⊢; exact H)
      have hji26_ : (if 14 < (t432.size : Int) then 14 else (t432.size : Int)) = ji26 := hji26
      replace H := Option.bind_eq_some_iff.mp H
      obtain ⟨⟨t435, t436⟩, A270, H⟩ := H
      replace H : (if 0 ≤ (wrap64 (1 + t435)) then (if (wrap64 (1 + t435)) ≤ (t432.size : Int) then ((spec_l6Rd_of.f kj12 t415 t436 (([(⟨#[]⟩ : ByteArray), (⟨#[]⟩ : ByteArray), (⟨#[42]⟩ : ByteArray), (⟨#[36]⟩ : ByteArray)] : List ByteArray))).bind fun bt440 => (if (t432.extract 0 ((wrap64 (1 + t435)) : Int).toNat).size + bt440.1.size ≤ 9223372036854775807 then (some ((t432.extract 0 ((wrap64 (1 + t435)) : Int).toNat) ++ bt440.1, t432)) else (none))) else (none)) else (none)) = some (r1, r2) := H
      have A27 := Aside0.mk A270
      clear A270
      obtain ⟨ji28, hji28⟩ : ∃ j_ : Int, (wrap64 (1 + t435)) = j_ := ⟨_, rfl⟩
      replace H : (if 0 ≤ (ji28) then (if (ji28) ≤ (t432.size : Int) then ((spec_l6Rd_of.f kj12 t415 t436 (([(⟨#[]⟩ : ByteArray), (⟨#[]⟩ : ByteArray), (⟨#[42]⟩ : ByteArray), (⟨#[36]⟩ : ByteArray)] : List ByteArray))).bind fun bt440 => (if (t432.extract 0 ((ji28) : Int).toNat).size + bt440.1.size ≤ 9223372036854775807 then (some ((t432.extract 0 ((ji28) : Int).toNat) ++ bt440.1, t432)) else (none))) else (none)) else (none)) = some (r1, r2) := by first | (rw [hji28] at H; exact H) | (simp only [hji28] at H ⊢; exact H)
      (try rw [hji28] at A27)
      have hji28w : (IntKind.i64.wrap (1 + t435)) = ji28 := (i64_w _).trans hji28
      by_cases c29 : 0 ≤ (ji28)
      ·rw [if_pos c29] at H
       have c29b0 := eq_true c29
       have c29b1 := decide_eq_true c29
       clear c29
       by_cases c30 : (ji28) ≤ (t432.size : Int)
       ·rw [if_pos c30] at H
        have c30b0 := eq_true c30
        have c30b1 := decide_eq_true c30
        clear c30
        obtain ⟨y437, hy437⟩ : ∃ y_ : List ByteArray, y_ = (([(⟨#[]⟩ : ByteArray), (⟨#[]⟩ : ByteArray), (⟨#[42]⟩ : ByteArray), (⟨#[36]⟩ : ByteArray)] : List ByteArray)) := ⟨_, rfl⟩
        replace H : ((spec_l6Rd_of.f kj12 t415 t436 y437).bind fun bt440 => (if (t432.extract 0 ((ji28) : Int).toNat).size + bt440.1.size ≤ 9223372036854775807 then (some ((t432.extract 0 ((ji28) : Int).toNat) ++ bt440.1, t432)) else (none))) = some (r1, r2) := by first | (rw [hy437]; with_reducible exact H) | (have H2_ := (Option.bind_some _ _).symm.trans H; rw [hy437]; with_reducible exact H2_) | (have H2_ := (Option.bind_some _ _).symm.trans H; with_reducible exact H2_) | with_reducible exact H | (rw [hy437]; exact H) | exact H
        have Ny437 := Aside0.mk hy437
        clear hy437
        replace H := Option.bind_eq_some_iff.mp H
        obtain ⟨⟨t440, t441⟩, A310, H⟩ := H
        replace H : (if (t432.extract 0 ((ji28) : Int).toNat).size + t440.size ≤ 9223372036854775807 then (some ((t432.extract 0 ((ji28) : Int).toNat) ++ t440, t432)) else (none)) = some (r1, r2) := H
        have A31 := Aside0.mk A310
        clear A310
        by_cases c32 : (t432.extract 0 ((ji28) : Int).toNat).size + t440.size ≤ 9223372036854775807
        ·rw [if_pos c32] at H
         have c32b0 := eq_true c32
         have c32b1 := decide_eq_true c32
         try have c32b2 : (9223372036854775807 < (t432.extract 0 ((ji28) : Int).toNat).size + t440.size) = False := eq_false (Nat.not_lt.2 c32)
         simp only [Option.some.injEq, Prod.mk.injEq] at H
         obtain ⟨rfl, rfl⟩ := H
         try go_wp2
         have n0_ := Aside0.mk (Kd.R_drew HO_432001.out)
         have n1_ := Aside0.mk (blk_drew BK431.out)
         have n2_ := Aside0.mk (IsS65.drew HI417.out)
         have n3_ := Aside0.mk (below_drew1 HB.out)
         clear HO_432001
         clear BK431
         clear HI417
         clear HB
         have HO_432001 := n0_
         have BK431 := n1_
         have HI417 := n2_
         have HB := n3_
         clear n0_ n1_ n2_ n3_
         refine start_ (n := 13) (S := fun w' => True) (ds := []) #[false, false, false, false, false, false, false, false, false, false, false, false, false] (by kernel_rfl) rfl rfl trivial (fun hHeld => ?_); refine with_tabW spec_DrawRuleHas.tab8 spec_DrawRuleHas.bits8 (fun HT_ HW_ => ?_)
         generalize wc.drew = w33 at HO_432001 BK431 HI417 HB hHeld ⊢
         refine pure_ (i := 0) (N := some 31) (v := ?_) (a' := ?_) #[true, false, false, false, false, false, false, false, false, false, false, false, false] rfl rfl (any_of HT_.out (by kernel_rfl)) (fun _ _ _ h => h) (Or.inl ⟨by rfl, ?_⟩) ?_ ?_
         rotate_left
         ·intro w'
          go_simp
          with_reducible rfl
         rotate_left
         ·simp only [Act.put, List.setIfInBounds_toArray, List.set_cons_zero, List.set_cons_succ, i64_w, i32_w]
          rfl
         refine pure_ (i := 1) (N := some 32) (v := ?_) (a' := ?_) #[true, true, false, false, false, false, false, false, false, false, false, false, false] rfl rfl (any_of HT_.out (by kernel_rfl)) (fun _ _ _ h => h) (Or.inl ⟨by rfl, ?_⟩) ?_ ?_
         rotate_left
         ·intro w'
          go_simp
          with_reducible rfl
         rotate_left
         ·simp only [Act.put, List.setIfInBounds_toArray, List.set_cons_zero, List.set_cons_succ, i64_w, i32_w]
          rfl
         refine pure_ (i := 2) (N := some 33) (v := ?_) (a' := ?_) #[true, true, true, false, false, false, false, false, false, false, false, false, false] rfl rfl (any_of HT_.out (by kernel_rfl)) (fun _ _ _ h => h) (Or.inl ⟨by rfl, ?_⟩) ?_ ?_
         rotate_left
         ·intro w'
          go_simp
          with_reducible rfl
         rotate_left
         ·simp only [Act.put, List.setIfInBounds_toArray, List.set_cons_zero, List.set_cons_succ, i64_w, i32_w]
          rfl
         refine pure_ (i := 8) (N := some 39) (v := ?_) (a' := ?_) #[true, true, true, false, false, false, false, false, true, false, false, false, false] rfl rfl (any_of HT_.out (by kernel_rfl)) (fun _ _ _ h => h) (Or.inl ⟨by rfl, ?_⟩) ?_ ?_
         rotate_left
         ·intro w'
          go_simp
          with_reducible rfl
         rotate_left
         ·simp only [Act.put, List.setIfInBounds_toArray, List.set_cons_zero, List.set_cons_succ, i64_w, i32_w]
          rfl
         refine inv_at [3, 4, 5, 6, 7, 9, 10, 11, 12] (fun a0_ b a w' => ∃ (v438 : Value), a = putSel a0_ b [(3, 34, .int .i64 (t432.size : Int)), (4, 35, .int .i64 ji26), (5, 36, .int .i64 t435), (6, 37, .int .i64 ji28), (7, 38, .string (t432.extract 0 ((ji28) : Int).toNat)), (9, 40, v438), (10, 41, .string t440), (11, 42, .string ((t432.extract 0 ((ji28) : Int).toNat) ++ t440)), (12, 5, .string ((t432.extract 0 ((ji28) : Int).toNat) ++ t440))] ∧ (Kd.R Kd.string 9 w' w.heap.size (fun _ => True) (.slice Ao19 t425.length co19) t425) ∧ (w'.heap[gb431]? = some (.cells #[.string t424, .slice Ao19 t425.length co19, .bool t428, .string t429] 53 (0, 0))) ∧ (b 5 = false → IsS65 w w' g417 t415 x418001_12) ∧ (Below w.heap.size w w') ∧ (b 5 = true → b 10 = false → IsS65 w w' g417 t415 t436) ∧ (b 9 = true → Kd.R Kd.string 9 w' w.heap.size (fun k_ => some k_ ≠ (.slice Ao19 t425.length co19 : Value).ownBlock) v438 y437) ∧ (b 10 = true → IsS65 w w' g417 t415 t441)) HT_.out HW_.out (by kernel_rfl) (by kernel_rfl) ?_ ?_ ?_
         ·exact ⟨.bool false, by simp only [putSel, Bool.false_eq_true, if_false], HO_432001.out, BK431.out, fun _ => HI417.out, HB.out, fun h_ => absurd h_ (by decide), fun h_ => absurd h_ (by decide), fun h_ => absurd h_ (by decide)⟩
         ·skip
          clear BK431 HB HI417 HO_432001
          refine steps_cons ?_ ?_
          ·rintro b a w' ⟨v438, ha, Q_HO_432001, Q_BK431, Q_HI417, Q_HB, Q_HI417_e5, Q_HO439, Q_HI417_e10⟩ hb_ hon hoff
           refine ⟨_, rfl, fun K hK => ?_⟩
           have e33 : a.tmps[33]? = some (.string t432) := by rw [ha]; exact (putSel_off rfl).trans rfl
           replace ha := Aside0.mk ha
           have HO_432001 := Aside0.mk Q_HO_432001
           have BK431 := Aside0.mk Q_BK431
           have HI417 := Aside0.mk (Q_HI417 (hoff 5 (by kernel_rfl)))
           have HB := Aside0.mk Q_HB
           refine value_ (w1 := w') (v := .int .i64 (t432.size : Int)) (by rfl) rfl ?_ ?_
           ·go_simp
            (try simp only [i64_w])
            try rfl
           refine hK.out _ _ ⟨v438, (by rw [ha.out]; exact putSel_upk 0 hb_ rfl rfl rfl), Q_HO_432001, Q_BK431, Q_HI417, Q_HB, fun h0_ _ => absurd ((hoff 5 (by kernel_rfl)).symm.trans h0_) (by decide), Q_HO439, fun h0_ => absurd ((hoff 10 (by kernel_rfl)).symm.trans h0_) (by decide)⟩
          refine steps_cons ?_ ?_
          ·rintro b a w' ⟨v438, ha, Q_HO_432001, Q_BK431, Q_HI417, Q_HB, Q_HI417_e5, Q_HO439, Q_HI417_e10⟩ hb_ hon hoff
           refine ⟨_, rfl, fun K hK => ?_⟩
           have e34 : a.tmps[34]? = some (.int .i64 (t432.size : Int)) := by rw [ha]; exact putSel_on (e := (3, 34, .int .i64 (t432.size : Int))) 0 rfl rfl (hon 3 (by kernel_rfl)) rfl
           replace ha := Aside0.mk ha
           have HO_432001 := Aside0.mk Q_HO_432001
           have BK431 := Aside0.mk Q_BK431
           have HI417 := Aside0.mk (Q_HI417 (hoff 5 (by kernel_rfl)))
           have HB := Aside0.mk Q_HB
           refine value_ (w1 := w') (v := .int .i64 ji26) (by rfl) rfl ?_ ?_
           ·go_simp
            (try simp only [i64_w])
            try rfl
           refine hK.out _ _ ⟨v438, (by rw [ha.out]; exact putSel_upk 1 hb_ rfl rfl rfl), Q_HO_432001, Q_BK431, Q_HI417, Q_HB, fun h0_ _ => absurd ((hoff 5 (by kernel_rfl)).symm.trans h0_) (by decide), Q_HO439, fun h0_ => absurd ((hoff 10 (by kernel_rfl)).symm.trans h0_) (by decide)⟩
          refine steps_cons ?_ ?_
          ·rintro b a w' ⟨v438, ha, Q_HO_432001, Q_BK431, Q_HI417, Q_HB, Q_HI417_e5, Q_HO439, Q_HI417_e10⟩ hb_ hon hoff
           refine ⟨_, rfl, fun K hK => ?_⟩
           have e32 : a.tmps[32]? = some (.pointer (some ⟨g417, 0, none⟩)) := by rw [ha]; exact (putSel_off rfl).trans rfl
           have e35 : a.tmps[35]? = some (.int .i64 ji26) := by rw [ha]; exact putSel_on (e := (4, 35, .int .i64 ji26)) 1 rfl rfl (hon 4 (by kernel_rfl)) rfl
           replace ha := Aside0.mk ha
           have HO_432001 := Aside0.mk Q_HO_432001
           have BK431 := Aside0.mk Q_BK431
           have HI417 := Aside0.mk (Q_HI417 hb_)
           have HB := Aside0.mk Q_HB
           refine goes_ Try.func34 (by kernel_rfl) rfl #[.pointer (some ⟨g417, 0, none⟩), .int .i64 ji26] (by rfl) rfl rfl (by (try simp only [List.map_toArray, List.map_cons, List.map_nil]); first | done | (simp only [hji26]; rfl) | rfl | (simp only [Act.eval, Array.getD_eq_getD_getElem?, Option.getD_some, *]; done) | (simp [Act.eval, Array.getD_eq_getD_getElem?, *]; done) | (simp only [List.length_drop, List.length_take]; rfl)) ?_
           with_reducible refine (spec_l6Rd_pick.calls kj12 g417 t415 x418001_12 ji26 t435 t436 w _ ?side1 ?side2 A27.out).mono ?_
           (case side1 => repeat (first | (with_reducible first | exact HI417.out | apply IsS65.alloc | apply IsS65.drewN | apply IsS65.drew | apply IsS65.set_1 | refine IsS65.far ?_ NB417_431.out _) | exact HI417.out))
           (case side2 => repeat (first | (with_reducible first | exact HB.out | apply below_alloc | apply pw_below_drewN | apply below_drew1 | refine below_set ?_ (IsS65.ge HI417.out) | refine below_set ?_ GE431.out) | exact HB.out))
           rintro e w34 ⟨rfl, hi, hb, hk⟩
           refine ⟨_, rfl, ?_⟩
           have n0_ := Aside0.mk (Kd.R_mono (Kd.R_keep (IsS65.apart (show IsS65 w _ g417 t415 x418001_12 from by repeat (first | (with_reducible first | exact HI417.out | apply IsS65.alloc | apply IsS65.drewN | apply IsS65.drew | apply IsS65.set_1 | refine IsS65.far ?_ NB417_431.out _) | exact HI417.out)) (by (with_reducible repeat (first | apply Kd.R_alloc | apply Kd.R_drewN | apply Kd.R_drew)); exact HO_432001.out) (by decide)) hk (fun _ h => h.2)) (fun _ h => h.1))
           have n1_ := Aside0.mk (KeepBut.blk hk (g' := gb431) (o := .cells #[.string t424, .slice Ao19 t425.length co19, .bool t428, .string t429] 53 (0, 0)) (by (with_reducible repeat (first | refine blk_drewN ?_ _ | refine blk_drew ?_ | refine blk_alloc ?_ _)); exact BK431.out) NB431_417.out (by simp))
           have n2_ := Aside0.mk (hb)
           have n3_ := Aside0.mk (hi)
           have z_HO439 := fun (h0_ : b 9 = true) => (show Kd.R Kd.string 9 w34 w.heap.size (fun k_ => some k_ ≠ (.slice Ao19 t425.length co19 : Value).ownBlock) v438 y437 from by first | exact (Kd.R_mono (Kd.R_keep (IsS65.apart (show IsS65 w _ g417 t415 x418001_12 from by repeat (first | (with_reducible first | exact HI417.out | apply IsS65.alloc | apply IsS65.drewN | apply IsS65.drew | apply IsS65.set_1 | refine IsS65.far ?_ NB417_431.out _) | exact HI417.out)) (by (with_reducible repeat (first | apply Kd.R_alloc | apply Kd.R_drewN | apply Kd.R_drew)); exact (Q_HO439 h0_)) (by decide)) hk (fun _ h => h.2)) (fun _ h => h.1)) | exact Kd.R_mono (Kd.R_mono (Kd.R_keep (IsS65.apart (show IsS65 w _ g417 t415 x418001_12 from by repeat (first | (with_reducible first | exact HI417.out | apply IsS65.alloc | apply IsS65.drewN | apply IsS65.drew | apply IsS65.set_1 | refine IsS65.far ?_ NB417_431.out _) | exact HI417.out)) (by (with_reducible repeat (first | apply Kd.R_alloc | apply Kd.R_drewN | apply Kd.R_drew)); exact (Q_HO439 h0_)) (by decide)) hk (fun _ h => h.2)) (fun _ h => h.1)) (fun _ h_ => by first | trivial | exact h_ | exact h_.1))
           clear HO_432001
           clear BK431
           clear HB
           clear HI417
           have HO_432001 := n0_
           have BK431 := n1_
           have HB := n2_
           have HI417 := n3_
           clear n0_ n1_ n2_ n3_
           (try clear hb)
           (try clear hb2)
           (try clear hk)
           (try clear hi)
           refine hK.out _ _ ⟨v438, (by rw [ha.out]; exact putSel_upk 2 hb_ rfl rfl rfl), (by (with_reducible repeat (first | apply Kd.R_alloc | apply Kd.R_drewN | apply Kd.R_drew)); exact HO_432001.out), (by (with_reducible repeat (first | refine blk_drewN ?_ _ | refine blk_drew ?_ | refine blk_alloc ?_ _)); exact BK431.out), fun h0_ => absurd ((up_self b 5).symm.trans h0_) (by decide), (by repeat (first | (with_reducible first | exact HB.out | apply below_alloc | apply pw_below_drewN | apply below_drew1 | refine below_set ?_ (IsS65.ge HI417.out) | refine below_set ?_ GE431.out) | exact HB.out)), fun _ _ => (by repeat (first | (with_reducible first | exact HI417.out | apply IsS65.alloc | apply IsS65.drewN | apply IsS65.drew | apply IsS65.set_1 | refine IsS65.far ?_ NB417_431.out _) | exact HI417.out)), z_HO439, fun h0_ => absurd ((hoff 10 (by kernel_rfl)).symm.trans h0_) (by decide)⟩
          refine steps_cons ?_ ?_
          ·rintro b a w' ⟨v438, ha, Q_HO_432001, Q_BK431, Q_HI417, Q_HB, Q_HI417_e5, Q_HO439, Q_HI417_e10⟩ hb_ hon hoff
           refine ⟨_, rfl, fun K hK => ?_⟩
           have e36 : a.tmps[36]? = some (.int .i64 t435) := by rw [ha]; exact putSel_on (e := (5, 36, .int .i64 t435)) 2 rfl rfl (hon 5 (by kernel_rfl)) rfl
           replace ha := Aside0.mk ha
           have HO_432001 := Aside0.mk Q_HO_432001
           have BK431 := Aside0.mk Q_BK431
           have HB := Aside0.mk Q_HB
           refine value_ (w1 := w') (v := .int .i64 ji28) (by rfl) rfl ?_ ?_
           ·go_simp
            (try simp only [i64_w])
            try rfl
           refine hK.out _ _ ⟨v438, (by rw [ha.out]; exact putSel_upk 3 hb_ rfl rfl rfl), Q_HO_432001, Q_BK431, fun h0_ => absurd ((hon 5 (by kernel_rfl)).symm.trans h0_) (by decide), Q_HB, Q_HI417_e5, Q_HO439, Q_HI417_e10⟩
          refine steps_cons ?_ ?_
          ·rintro b a w' ⟨v438, ha, Q_HO_432001, Q_BK431, Q_HI417, Q_HB, Q_HI417_e5, Q_HO439, Q_HI417_e10⟩ hb_ hon hoff
           refine ⟨_, rfl, fun K hK => ?_⟩
           have e31 : a.tmps[31]? = some (.string t432) := by rw [ha]; exact (putSel_off rfl).trans rfl
           have e37 : a.tmps[37]? = some (.int .i64 ji28) := by rw [ha]; exact putSel_on (e := (6, 37, .int .i64 ji28)) 3 rfl rfl (hon 6 (by kernel_rfl)) rfl
           replace ha := Aside0.mk ha
           have HO_432001 := Aside0.mk Q_HO_432001
           have BK431 := Aside0.mk Q_BK431
           have HB := Aside0.mk Q_HB
           refine value_ (w1 := w') (v := .string (t432.extract 0 ((ji28) : Int).toNat)) (by rfl) rfl ?_ ?_
           ·go_simp
            (try simp only [i64_w])
            try rfl
           refine hK.out _ _ ⟨v438, (by rw [ha.out]; exact putSel_upk 4 hb_ rfl rfl rfl), Q_HO_432001, Q_BK431, fun h0_ => absurd ((hon 5 (by kernel_rfl)).symm.trans h0_) (by decide), Q_HB, Q_HI417_e5, Q_HO439, Q_HI417_e10⟩
          refine steps_cons ?_ ?_
          ·rintro b a w' ⟨v438, ha, Q_HO_432001, Q_BK431, Q_HI417, Q_HB, Q_HI417_e5, Q_HO439, Q_HI417_e10⟩ hb_ hon hoff
           refine ⟨_, rfl, fun K hK => ?_⟩
           replace ha := Aside0.mk ha
           have HO_432001 := Aside0.mk Q_HO_432001
           have BK431 := Aside0.mk Q_BK431
           have HB := Aside0.mk Q_HB
           refine Kd.R_lit_step Kd.string _ 9 ?hg (N := 40) ?hd (xs := ([(⟨#[]⟩ : ByteArray), (⟨#[]⟩ : ByteArray), (⟨#[42]⟩ : ByteArray), (⟨#[36]⟩ : ByteArray)] : List ByteArray)) (inner := [.string (⟨#[]⟩ : ByteArray), .string (⟨#[]⟩ : ByteArray), .string (⟨#[42]⟩ : ByteArray), .string (⟨#[36]⟩ : ByteArray)]) (ok := fun _ => True) (okp := fun _ => True) ?hr ?hp (fun _ hk => hk) trivial (Below.refl _ _) (Nat.le_refl _) (by simp) ?_; (case hd => rfl); (case hg => rfl); (case hr => first | (go_simp; done) | (go_simp; rfl)); (case hp => exact (Reps.one (show Kd.M Kd.string _ _ _ (⟨#[]⟩ : ByteArray) [.string (⟨#[]⟩ : ByteArray)] from rfl) (Reps.one (show Kd.M Kd.string _ _ _ (⟨#[]⟩ : ByteArray) [.string (⟨#[]⟩ : ByteArray)] from rfl) (Reps.one (show Kd.M Kd.string _ _ _ (⟨#[42]⟩ : ByteArray) [.string (⟨#[42]⟩ : ByteArray)] from rfl) (Reps.one (show Kd.M Kd.string _ _ _ (⟨#[36]⟩ : ByteArray) [.string (⟨#[36]⟩ : ByteArray)] from rfl) (Reps.none _ _))))))
           intro v438 w34 ho35 hb hg_ hnew_
           clear hg_ hnew_
           (first | rw [← Ny437.out] at ho35 | (simp only [Int.reduceToNat] at ho35; rw [← Ny437.out] at ho35))
           have n0_ := Aside0.mk (Kd.R_elder' (by (with_reducible repeat (first | apply Kd.R_alloc | apply Kd.R_drewN | apply Kd.R_drew)); exact HO_432001.out) (Kd.R_base ho35) hb)
           have n1_ := Aside0.mk (Kd.R_lower (Kd.R_new' ho35 (Kd.R_lt (by (with_reducible repeat (first | apply Kd.R_alloc | apply Kd.R_drewN | apply Kd.R_drew)); exact HO_432001.out))) (below_size (by repeat (first | (with_reducible first | exact HB.out | apply below_alloc | apply pw_below_drewN | apply below_drew1 | refine below_set ?_ GE431.out) | exact HB.out))))
           have n2_ := Aside0.mk (blk_below (g := gb431) (o := .cells #[.string t424, .slice Ao19 t425.length co19, .bool t428, .string t429] 53 (0, 0)) (by (with_reducible repeat (first | refine blk_drewN ?_ _ | refine blk_drew ?_ | refine blk_alloc ?_ _)); exact BK431.out) hb)
           have n4_ := Aside0.mk (below_step (by repeat (first | (with_reducible first | exact HB.out | apply below_alloc | apply pw_below_drewN | apply below_drew1 | refine below_set ?_ GE431.out) | exact HB.out)) hb)
           have z_HI417 := fun (h0_ : b 5 = false) => (show IsS65 w w34 g417 t415 x418001_12 from by first | exact (IsS65.below (by repeat (first | (with_reducible first | exact (Q_HI417 h0_) | apply IsS65.alloc | apply IsS65.drewN | apply IsS65.drew | apply IsS65.set_1 | refine IsS65.far ?_ NB417_431.out _) | exact (Q_HI417 h0_))) hb))
           have z_HI417_e5 := fun (h0_ : b 5 = true) (h1_ : b 10 = false) => (show IsS65 w w34 g417 t415 t436 from by first | exact (IsS65.below (by repeat (first | (with_reducible first | exact (Q_HI417_e5 h0_ h1_) | apply IsS65.alloc | apply IsS65.drewN | apply IsS65.drew | apply IsS65.set_1 | refine IsS65.far ?_ NB417_431.out _) | exact (Q_HI417_e5 h0_ h1_))) hb))
           clear HO_432001
           clear BK431
           clear HB
           have HO_432001 := n0_
           have HO439 := n1_
           have BK431 := n2_
           have HB := n4_
           clear n0_ n1_ n2_ n4_
           clear hb ho35
           refine hK.out _ _ ⟨v438, (by rw [ha.out]; exact putSel_upk 5 hb_ rfl rfl rfl), (by (with_reducible repeat (first | apply Kd.R_alloc | apply Kd.R_drewN | apply Kd.R_drew)); exact Kd.R_mono HO_432001.out (fun _ hk => by first | exact hk.2 | exact trivial)), (by (with_reducible repeat (first | refine blk_drewN ?_ _ | refine blk_drew ?_ | refine blk_alloc ?_ _)); exact BK431.out), z_HI417, (by repeat (first | (with_reducible first | exact HB.out | apply below_alloc | apply pw_below_drewN | apply below_drew1 | refine below_set ?_ GE431.out) | exact HB.out)), z_HI417_e5, fun _ => (by (with_reducible repeat (first | apply Kd.R_alloc | apply Kd.R_drewN | apply Kd.R_drew)); exact Kd.R_mono HO439.out (fun _ hk => by first | exact hk.2 | exact trivial)), fun h0_ => absurd ((hoff 10 (by kernel_rfl)).symm.trans h0_) (by decide)⟩
          refine steps_cons ?_ ?_
          ·rintro b a w' ⟨v438, ha, Q_HO_432001, Q_BK431, Q_HI417, Q_HB, Q_HI417_e5, Q_HO439, Q_HI417_e10⟩ hb_ hon hoff
           refine ⟨_, rfl, fun K hK => ?_⟩
           have e39 : a.tmps[39]? = some (.pointer (some ⟨g417, 0, none⟩)) := by rw [ha]; exact (putSel_off rfl).trans rfl
           have e40 : a.tmps[40]? = some (v438) := by rw [ha]; exact putSel_on (e := (9, 40, v438)) 5 rfl rfl (hon 9 (by kernel_rfl)) rfl
           replace ha := Aside0.mk ha
           have HO_432001 := Aside0.mk Q_HO_432001
           have BK431 := Aside0.mk Q_BK431
           have HB := Aside0.mk Q_HB
           have HI417 := Aside0.mk (Q_HI417_e5 (hon 5 (by kernel_rfl)) hb_)
           have HO439 := Aside0.mk (Q_HO439 (hon 9 (by kernel_rfl)))
           obtain ⟨Ao38, co38, eo38⟩ := Kd.R_slice HO439.out
           (first | subst eo38 | (injection eo38 with f1_ f2_ f3_; have f4_ := f1_.symm; have f5_ := f3_.symm; clear f1_ f2_ f3_; subst f4_; subst f5_))
           refine goes_ Try.func38 (by kernel_rfl) rfl #[.pointer (some ⟨g417, 0, none⟩), .slice Ao38 y437.length co38] (by rfl) rfl rfl (by first | (simp only [List.map_toArray, List.map_cons, List.map_nil, Act.eval, Array.getD_eq_getD_getElem?, Option.getD_some, e39, e40]; done) | (simp only [List.map_toArray, List.map_cons, List.map_nil, Act.eval, Array.getD_eq_getD_getElem?, Option.getD_some, e39, e40]; rfl)) ?_
           with_reducible refine (spec_l6Rd_of.calls kj12 g417 t415 t436 _ _ y437 t440 t441 w _ ?side1 ?side2 ?side3 ?side4 ?side5 A31.out).mono ?_
           (case side1 => repeat (first | (with_reducible first | exact HI417.out | apply IsS65.alloc | apply IsS65.drewN | apply IsS65.drew | apply IsS65.set_1 | refine IsS65.far ?_ NB417_431.out _) | exact HI417.out))
           (case side2 => repeat (first | (with_reducible first | exact HB.out | apply below_alloc | apply pw_below_drewN | apply below_drew1 | refine below_set ?_ (IsS65.ge HI417.out) | refine below_set ?_ GE431.out) | exact HB.out))
           (case side3 => repeat (first | exact (Kd.R_reads' HO439.out).2.2 | (with_reducible refine Kd.C_alloc ?_ _) | (with_reducible refine Kd.C_drewN ?_ _) | (with_reducible refine Kd.C_drew ?_)))
           (case side4 => exact (Kd.R_reads' HO439.out).2.1)
           (case side5 => exact far_slice (IsS65.own_ne HI417.out HO439.out (by decide)))
           rintro e w39 ⟨rfl, hi, hb, hk⟩
           refine ⟨_, rfl, ?_⟩
           have n0_ := Aside0.mk (Kd.R_mono (Kd.R_keep (IsS65.apart (show IsS65 w _ g417 t415 t436 from by repeat (first | (with_reducible first | exact HI417.out | apply IsS65.alloc | apply IsS65.drewN | apply IsS65.drew | apply IsS65.set_1 | refine IsS65.far ?_ NB417_431.out _) | exact HI417.out)) (by (with_reducible repeat (first | apply Kd.R_alloc | apply Kd.R_drewN | apply Kd.R_drew)); exact HO_432001.out) (by decide)) hk (fun _ h => h.2)) (fun _ h => h.1))
           have n1_ := Aside0.mk (KeepBut.blk hk (g' := gb431) (o := .cells #[.string t424, .slice Ao19 t425.length co19, .bool t428, .string t429] 53 (0, 0)) (by (with_reducible repeat (first | refine blk_drewN ?_ _ | refine blk_drew ?_ | refine blk_alloc ?_ _)); exact BK431.out) NB431_417.out (by simp))
           have n2_ := Aside0.mk (Kd.R_mono (Kd.R_keep (IsS65.apart (show IsS65 w _ g417 t415 t436 from by repeat (first | (with_reducible first | exact HI417.out | apply IsS65.alloc | apply IsS65.drewN | apply IsS65.drew | apply IsS65.set_1 | refine IsS65.far ?_ NB417_431.out _) | exact HI417.out)) (by (with_reducible repeat (first | apply Kd.R_alloc | apply Kd.R_drewN | apply Kd.R_drew)); exact HO439.out) (by decide)) hk (fun _ h => h.2)) (fun _ h => h.1))
           have n3_ := Aside0.mk (hb)
           have n4_ := Aside0.mk (hi)
           clear HO_432001
           clear BK431
           clear HO439
           clear HB
           clear HI417
           have HO_432001 := n0_
           have BK431 := n1_
           have HO439 := n2_
           have HB := n3_
           have HI417 := n4_
           clear n0_ n1_ n2_ n3_ n4_
           (try clear hb)
           (try clear hb2)
           (try clear hk)
           (try clear hi)
           refine hK.out _ _ ⟨.slice Ao38 y437.length co38, (by rw [ha.out]; exact putSel_upk 6 hb_ rfl rfl rfl), (by (with_reducible repeat (first | apply Kd.R_alloc | apply Kd.R_drewN | apply Kd.R_drew)); exact HO_432001.out), (by (with_reducible repeat (first | refine blk_drewN ?_ _ | refine blk_drew ?_ | refine blk_alloc ?_ _)); exact BK431.out), fun h0_ => absurd ((hon 5 (by kernel_rfl)).symm.trans h0_) (by decide), (by repeat (first | (with_reducible first | exact HB.out | apply below_alloc | apply pw_below_drewN | apply below_drew1 | refine below_set ?_ (IsS65.ge HI417.out) | refine below_set ?_ GE431.out) | exact HB.out)), fun _ h1_ => absurd ((up_self b 10).symm.trans h1_) (by decide), fun _ => (by (with_reducible repeat (first | apply Kd.R_alloc | apply Kd.R_drewN | apply Kd.R_drew)); exact HO439.out), fun _ => (by repeat (first | (with_reducible first | exact HI417.out | apply IsS65.alloc | apply IsS65.drewN | apply IsS65.drew | apply IsS65.set_1 | refine IsS65.far ?_ NB417_431.out _) | exact HI417.out))⟩
          refine steps_cons ?_ ?_
          ·rintro b a w' ⟨v438, ha, Q_HO_432001, Q_BK431, Q_HI417, Q_HB, Q_HI417_e5, Q_HO439, Q_HI417_e10⟩ hb_ hon hoff
           refine ⟨_, rfl, fun K hK => ?_⟩
           have e38 : a.tmps[38]? = some (.string (t432.extract 0 ((ji28) : Int).toNat)) := by rw [ha]; exact putSel_on (e := (7, 38, .string (t432.extract 0 ((ji28) : Int).toNat))) 4 rfl rfl (hon 7 (by kernel_rfl)) rfl
           have e41 : a.tmps[41]? = some (.string t440) := by rw [ha]; exact putSel_on (e := (10, 41, .string t440)) 6 rfl rfl (hon 10 (by kernel_rfl)) rfl
           replace ha := Aside0.mk ha
           have HO_432001 := Aside0.mk Q_HO_432001
           have BK431 := Aside0.mk Q_BK431
           have HB := Aside0.mk Q_HB
           have HO439 := Aside0.mk (Q_HO439 (hon 9 (by kernel_rfl)))
           have HI417 := Aside0.mk (Q_HI417_e10 (hon 10 (by kernel_rfl)))
           refine value_ (w1 := w') (v := .string ((t432.extract 0 ((ji28) : Int).toNat) ++ t440)) (by rfl) rfl ?_ ?_
           ·go_simp
            (try simp only [i64_w])
            try rfl
            (try (have h_ : (t432.extract 0 ((ji28) : Int).toNat).size + t440.size ≤ 9223372036854775807 := (by assumption); rw [ByteArray.size_extract] at h_; have h2_ : ji28 ≤ (t432.size : Int) := of_decide_eq_true (by assumption); omega))
           refine hK.out _ _ ⟨v438, (by rw [ha.out]; exact putSel_upk 7 hb_ rfl rfl rfl), Q_HO_432001, Q_BK431, fun h0_ => absurd ((hon 5 (by kernel_rfl)).symm.trans h0_) (by decide), Q_HB, fun _ h1_ => absurd ((hon 10 (by kernel_rfl)).symm.trans h1_) (by decide), Q_HO439, Q_HI417_e10⟩
          refine steps_cons ?_ ?_
          ·rintro b a w' ⟨v438, ha, Q_HO_432001, Q_BK431, Q_HI417, Q_HB, Q_HI417_e5, Q_HO439, Q_HI417_e10⟩ hb_ hon hoff
           refine ⟨_, rfl, fun K hK => ?_⟩
           have e42 : a.tmps[42]? = some (.string ((t432.extract 0 ((ji28) : Int).toNat) ++ t440)) := by rw [ha]; exact putSel_on (e := (11, 42, .string ((t432.extract 0 ((ji28) : Int).toNat) ++ t440))) 7 rfl rfl (hon 11 (by kernel_rfl)) rfl
           replace ha := Aside0.mk ha
           have HO_432001 := Aside0.mk Q_HO_432001
           have BK431 := Aside0.mk Q_BK431
           have HB := Aside0.mk Q_HB
           have HO439 := Aside0.mk (Q_HO439 (hon 9 (by kernel_rfl)))
           have HI417 := Aside0.mk (Q_HI417_e10 (hon 10 (by kernel_rfl)))
           refine value_ (w1 := w') (v := .string ((t432.extract 0 ((ji28) : Int).toNat) ++ t440)) (by rfl) rfl ?_ ?_
           ·go_simp
            (try simp only [i64_w])
            try rfl
            (try (have h_ : (t432.extract 0 ((ji28) : Int).toNat).size + t440.size ≤ 9223372036854775807 := (by assumption); rw [ByteArray.size_extract] at h_; have h2_ : ji28 ≤ (t432.size : Int) := of_decide_eq_true (by assumption); omega))
           refine hK.out _ _ ⟨v438, (by rw [ha.out]; exact putSel_upk 8 hb_ rfl rfl rfl), Q_HO_432001, Q_BK431, fun h0_ => absurd ((hon 5 (by kernel_rfl)).symm.trans h0_) (by decide), Q_HB, fun _ h1_ => absurd ((hon 10 (by kernel_rfl)).symm.trans h1_) (by decide), Q_HO439, Q_HI417_e10⟩
          exact steps_nil
         rintro b a w39 hall ⟨v438, ha, Q_HO_432001, Q_BK431, Q_HI417, Q_HB, Q_HI417_e5, Q_HO439, Q_HI417_e10⟩
         clear BK431 HB HI417 HO_432001
         have hb3_ := hall 3 (by kernel_rfl)
         have hb4_ := hall 4 (by kernel_rfl)
         have hb5_ := hall 5 (by kernel_rfl)
         have hb6_ := hall 6 (by kernel_rfl)
         have hb7_ := hall 7 (by kernel_rfl)
         have hb9_ := hall 9 (by kernel_rfl)
         have hb10_ := hall 10 (by kernel_rfl)
         have hb11_ := hall 11 (by kernel_rfl)
         have hb12_ := hall 12 (by kernel_rfl)
         subst ha
         simp only [putSel, hb3_, hb4_, hb5_, hb6_, hb7_, hb9_, hb10_, hb11_, hb12_, if_true, Act.put, List.setIfInBounds_toArray, List.set_cons_zero, List.set_cons_succ]
         have HO_432001 := Aside0.mk Q_HO_432001
         clear Q_HO_432001
         have BK431 := Aside0.mk Q_BK431
         clear Q_BK431
         clear Q_HI417
         have HB := Aside0.mk Q_HB
         clear Q_HB
         clear Q_HI417_e5
         have HO439 := Aside0.mk (Q_HO439 hb9_)
         clear Q_HO439
         have HI417 := Aside0.mk (Q_HI417_e10 hb10_)
         clear Q_HI417_e10
         clear hall hb3_ hb4_ hb5_ hb6_ hb7_ hb9_ hb10_ hb11_ hb12_
         try go_wp2
         go_ret2
         exact ⟨by first | rfl | (simp <;> rfl) | (simp only [← hji26, ← hji28]; first | rfl | (simp <;> rfl)) | (simp [*] <;> rfl), by repeat (first | (with_reducible first | exact HB.out | apply below_alloc | apply pw_below_drewN | apply below_drew1 | refine below_set ?_ (IsS65.ge HI417.out) | refine below_set ?_ GE431.out) | exact HB.out)⟩
        ·rw [if_neg c32] at H
         exact absurd H (by simp)
       ·rw [if_neg c30] at H
        exact absurd H (by simp)
      ·rw [if_neg c29] at H
       exact absurd H (by simp)
     ·replace c25 := Bool.eq_false_iff.mpr c25
      subst c25
      have H1 : (some (x5_4, t432)) = some (r1, r2) := by rw [if_neg (show ¬ (false = true) by decide)] at H; exact H
      clear H
      have H := H1
      clear H1
      simp only [Option.some.injEq, Prod.mk.injEq] at H
      obtain ⟨rfl, rfl⟩ := H
      go_wp2
      go_ret2
      exact ⟨by first | rfl | (simp <;> rfl) | (simp [*] <;> rfl), by repeat (first | (with_reducible first | exact HB.out | apply below_alloc | apply pw_below_drewN | apply below_drew1 | refine below_set ?_ (IsS65.ge HI417.out) | refine below_set ?_ GE431.out) | exact HB.out)⟩

end Go.Proofs.Ytmkncihmgbjgnaa.P
