-- Written by a program of this session (patch_print.py over the kit's print; given texts in wip/given).
import Derived.Test.YtochmlkladpfgaaPx0
import Derived.Test.YtochmlkladpfgaaPx1
import Derived.Test.YtochmlkladpfgaaPx8
import Derived.Test.YtochmlkladpfgaaPx12
import Derived.Test.YtochmlkladpfgaaPx14
import Derived.Test.YtochmlkladpfgaaPx17
namespace Go.Proofs.Ytochmlkladpfgaa.P
open Go.RowKit Go.Proofs.YtochmlkladpfgaaW.PrintWords Go.Proofs.YtochmlkladpfgaaW.PrintLast Go.Proofs.YtochmlkladpfgaaW.PrintMore
attribute [local go_sem] max2_int min2_int max_two min_two max_three min_three max_four min_four   -- for this text's walks alone
set_option linter.unusedVariables false
set_option linter.unusedSimpArgs false
set_option maxHeartbeats 8000000
set_option maxRecDepth 100000

/-! ### spec_DrawAddrText: function 20 -/
def spec_DrawAddrText.f (k : Nat) (l0 : List Int) : Option (ByteArray × List ByteArray × Bool × ByteArray) := (spec_l6Open.f l0).bind fun bt329 => ((spec_l71Struct.f k bt329.1 bt329.2).bind fun bt332 => (some (bt332.1, bt332.2.1, bt332.2.2.1, bt332.2.2.2.1)))
theorem spec_DrawAddrText.mono : ∀ a0 k, LeO (spec_DrawAddrText.f k a0) (spec_DrawAddrText.f (k + 1) a0) := by
 intro a0 k
 unfold spec_DrawAddrText.f
 repeat' first
   | (with_reducible exact spec_l71Struct.mono _ _ _)
   | (with_reducible exact LeO.refl _)
   | (with_reducible exact LeO.none _)
   | (with_reducible refine LeO.ite ?_ ?_)
   | (with_reducible refine LeO.bind ?_ (fun _ => ?_))
   | exact spec_l71Struct.mono _ _ _
   | exact LeO.none _
   | refine LeO.ite ?_ ?_
   | refine LeO.bind ?_ (fun _ => ?_)
theorem spec_DrawAddrText.calls (k : Nat) (A0 : Option Addr) (c0 : Nat) (l0 : List Int) (r1 : ByteArray) (r2 : List ByteArray) (r3 : Bool) (r4 : ByteArray) (w : World) (hr0 : Kd.C (Kd.int .u8) w A0 l0.length l0) (hc0 : l0.length ≤ c0) (h : spec_DrawAddrText.f k l0 = some (r1, r2, r3, r4)) :
  Calls Try.prog 20 #[.slice A0 l0.length c0] w fun e w' => ∃ v1_ : Value, e = .returned (.agg #[.string r1, v1_, .bool r3, .string r4]) ∧ Kd.R Kd.string 9 w' w.heap.size (fun _ => True) v1_ r2 ∧ Below w.heap.size w w' := by
 have hu27 := Try.underlying27
 have HR0 := Aside0.mk hr0
 have HC0 := Aside0.mk hc0
 clear hr0 hc0
 have HB := Aside0.mk (Below.refl w.heap.size w)
 have H : ((spec_l6Open.f l0).bind fun bt329 => ((spec_l71Struct.f k bt329.1 bt329.2).bind fun bt332 => (some (bt332.1, bt332.2.1, bt332.2.2.1, bt332.2.2.2.1)))) = some (r1, r2, r3, r4) := h
 clear h
 replace H := Option.bind_eq_some_iff.mp H
 obtain ⟨⟨t329, t330⟩, A20, H⟩ := H
 replace H : ((spec_l71Struct.f k t329 t330).bind fun bt332 => (some (bt332.1, bt332.2.1, bt332.2.2.1, bt332.2.2.2.1))) = some (r1, r2, r3, r4) := H
 have A2 := Aside0.mk A20
 clear A20
 replace H := Option.bind_eq_some_iff.mp H
 obtain ⟨⟨t332, t333, t336, t337, t338⟩, A30, H⟩ := H
 replace H : (some (t332, t333, t336, t337)) = some (r1, r2, r3, r4) := H
 have A3 := Aside0.mk A30
 clear A30
 simp only [Option.some.injEq, Prod.mk.injEq] at H
 obtain ⟨rfl, rfl, rfl, rfl⟩ := H
 go_enter Try.func20, Try.ntmps20
 go_wp2_with (first | ((with_reducible refine gate_dst (N := 2) rfl ?_); refine box_event ?hg (N := 2) ?hd (cs := #[.string (⟨#[]⟩ : ByteArray), .slice none 0 0, .bool false, .string (⟨#[]⟩ : ByteArray)]) (t := 27) ?hr ?_; (case hd => rfl); (case hg => rfl); (case hr => first | (go_simp; done) | (go_simp; rfl)); intro gb328 hg w4 hbox hb; have n0_ := Aside0.mk (below_step (by repeat (first | (with_reducible first | exact HB.out | apply below_alloc | apply pw_below_drewN | apply below_drew1) | exact HB.out)) hb); have n1_ := Aside0.mk (hbox); have n2_ := Aside0.mk ((by rw [hg]; exact (below_size (by repeat (first | (with_reducible first | exact HB.out | apply below_alloc | apply pw_below_drewN | apply below_drew1) | exact HB.out))) : w.heap.size ≤ gb328)); have n3_ := n2_; clear HB; have HB := n0_; have BK328 := n1_; have GW328 := n2_; have GE328 := n3_; clear n0_ n1_ n2_ n3_; clear hb hbox hg) | ((with_reducible refine gate_callee (f := 38) rfl ?_); refine goesL_ (some 4) rfl rfl Try.func38 (by kernel_rfl) rfl #[.slice A0 l0.length c0] rfl (by (try simp only [List.map_toArray, List.map_cons, List.map_nil]); first | done | rfl | (simp only [List.length_drop, List.length_take]; rfl)) ?_; (with_reducible refine (spec_l6Open.calls _ _ l0 t329 t330 w _ ?side1 ?side2 ?side3 A2.out).mono ?_); (case side1 => repeat (first | (with_reducible first | exact HB.out | apply below_alloc | apply pw_below_drewN | apply below_drew1 | refine below_set ?_ GE328.out) | exact HB.out)); (case side2 => exact HR0.out); (case side3 => exact HC0.out); rintro e w5 ⟨g331, rfl, hi, hb, hb2⟩; refine ⟨_, rfl, ?_⟩; have n0_ := Aside0.mk (blk_below (g := gb328) (o := .cells #[.string (⟨#[]⟩ : ByteArray), .slice none 0 0, .bool false, .string (⟨#[]⟩ : ByteArray)] 27 (0, 0)) (by (with_reducible repeat (first | refine blk_drewN ?_ _ | refine blk_drew ?_ | refine blk_alloc ?_ _)); exact BK328.out) hb2); have n1_ := Aside0.mk (hb); have n2_ := Aside0.mk (hi); have n3_ := Aside0.mk (IsS57.ne_blk hi (blk_below (g := gb328) (o := .cells #[.string (⟨#[]⟩ : ByteArray), .slice none 0 0, .bool false, .string (⟨#[]⟩ : ByteArray)] 27 (0, 0)) (by (with_reducible repeat (first | refine blk_drewN ?_ _ | refine blk_drew ?_ | refine blk_alloc ?_ _)); exact BK328.out) hb2) (by decide)); have n4_ := Aside0.mk (Ne.symm (IsS57.ne_blk hi (blk_below (g := gb328) (o := .cells #[.string (⟨#[]⟩ : ByteArray), .slice none 0 0, .bool false, .string (⟨#[]⟩ : ByteArray)] 27 (0, 0)) (by (with_reducible repeat (first | refine blk_drewN ?_ _ | refine blk_drew ?_ | refine blk_alloc ?_ _)); exact BK328.out) hb2) (by decide))); clear BK328; clear HB; have BK328 := n0_; have HB := n1_; have HI331 := n2_; have NB331_328 := n3_; have NB328_331 := n4_; clear n0_ n1_ n2_ n3_ n4_; (try clear hb); (try clear hb2); (try clear hk); (try clear hi)) | ((with_reducible refine gate_callee (f := 37) rfl ?_); refine goesL_ (some 5) rfl rfl Try.func37 (by kernel_rfl) rfl #[.pointer (some ⟨g331, 0, none⟩)] rfl (by (try simp only [List.map_toArray, List.map_cons, List.map_nil]); first | done | rfl | (simp only [List.length_drop, List.length_take]; rfl)) ?_; (with_reducible refine (spec_l71Struct.calls k g331 t329 t330 t332 t333 t336 t337 t338 w _ ?side1 ?side2 A3.out).mono ?_); (case side1 => repeat (first | (with_reducible first | exact HI331.out | apply IsS57.alloc | apply IsS57.drewN | apply IsS57.drew | apply IsS57.set_1 | refine IsS57.far ?_ NB331_328.out _) | exact HI331.out)); (case side2 => repeat (first | (with_reducible first | exact HB.out | apply below_alloc | apply pw_below_drewN | apply below_drew1 | refine below_set ?_ (IsS57.ge HI331.out) | refine below_set ?_ GE328.out) | exact HB.out)); rintro e w6 ⟨v334, rfl, ho0, hi, hb, hk⟩; refine ⟨_, rfl, ?_⟩; have n0_ := Aside0.mk (KeepBut.blk hk (g' := gb328) (o := .cells #[.string (⟨#[]⟩ : ByteArray), .slice none 0 0, .bool false, .string (⟨#[]⟩ : ByteArray)] 27 (0, 0)) (by (with_reducible repeat (first | refine blk_drewN ?_ _ | refine blk_drew ?_ | refine blk_alloc ?_ _)); exact BK328.out) NB328_331.out (by simp)); have n1_ := Aside0.mk (Kd.R_lower ho0 (below_size (by repeat (first | (with_reducible first | exact HB.out | apply below_alloc | apply pw_below_drewN | apply below_drew1 | refine below_set ?_ (IsS57.ge HI331.out) | refine below_set ?_ GE328.out) | exact HB.out)))); have n2_ := Aside0.mk (hb); have n3_ := Aside0.mk (hi); clear BK328; clear HB; clear HI331; have BK328 := n0_; have HO335 := n1_; have HB := n2_; have HI331 := n3_; clear n0_ n1_ n2_ n3_; (try clear hb); (try clear hb2); (try clear hk); (try clear hi); (try clear ho0); have hnb7 := NB328_331.out; have hnc7 := NB331_328.out; have hcz8_0 : w6.cell? ⟨gb328, 0, none⟩ = some (.string (⟨#[]⟩ : ByteArray)) := (blk_cell BK328.out 0).trans rfl; have hcz8_1 : w6.cell? ⟨gb328, 1, none⟩ = some (.slice none 0 0) := (blk_cell BK328.out 1).trans rfl; have hcz8_2 : w6.cell? ⟨gb328, 2, none⟩ = some (.bool false) := (blk_cell BK328.out 2).trans rfl; have hcz8_3 : w6.cell? ⟨gb328, 3, none⟩ = some (.string (⟨#[]⟩ : ByteArray)) := (blk_cell BK328.out 3).trans rfl; have hfz8_0 := blk_frozen BK328.out 0; have hfz8_1 := blk_frozen BK328.out 1; have hfz8_2 := blk_frozen BK328.out 2; have hfz8_3 := blk_frozen BK328.out 3; obtain ⟨Ao9, co9, eo9⟩ := Kd.R_slice HO335.out; subst eo9))
 refine bodyPost_ret (results_cell_row rfl _ _ gb328 27 #[.string t332, .slice Ao9 t333.length co9, .bool t336, .string t337] (0, 0) _ rfl (by (with_reducible repeat (first | refine blk_drewN ?_ _ | refine blk_drew ?_ | refine blk_alloc ?_ _)); refine blk_put (cs := #[.string t332, .slice Ao9 t333.length co9, .bool t336, .string (⟨#[]⟩ : ByteArray)]) ?_ 3 _ rfl; (with_reducible repeat (first | refine blk_drewN ?_ _ | refine blk_drew ?_ | refine blk_alloc ?_ _)); refine blk_put (cs := #[.string t332, .slice Ao9 t333.length co9, .bool false, .string (⟨#[]⟩ : ByteArray)]) ?_ 2 _ rfl; (with_reducible repeat (first | refine blk_drewN ?_ _ | refine blk_drew ?_ | refine blk_alloc ?_ _)); refine blk_put (cs := #[.string t332, .slice none 0 0, .bool false, .string (⟨#[]⟩ : ByteArray)]) ?_ 1 _ rfl; (with_reducible repeat (first | refine blk_drewN ?_ _ | refine blk_drew ?_ | refine blk_alloc ?_ _)); refine blk_put (cs := #[.string (⟨#[]⟩ : ByteArray), .slice none 0 0, .bool false, .string (⟨#[]⟩ : ByteArray)]) ?_ 0 _ rfl; (with_reducible repeat (first | refine blk_drewN ?_ _ | refine blk_drew ?_ | refine blk_alloc ?_ _)); exact BK328.out) Try.underlying27 rfl (by kernel_rfl)) rfl ?_
 exact ⟨_, by first | rfl | (simp <;> rfl) | (simp [*] <;> rfl), by (with_reducible repeat (first | apply Kd.R_alloc | apply Kd.R_drewN | apply Kd.R_drew)); exact Kd.R_mono (Kd.R_far (p := ⟨gb328, 3, none⟩) (Kd.R_far (p := ⟨gb328, 2, none⟩) (Kd.R_far (p := ⟨gb328, 1, none⟩) (Kd.R_far (p := ⟨gb328, 0, none⟩) (Kd.R_types HO335.out BK328.out (by decide)) (fun _ hk => hk.2) (.string t332)) (fun _ hk => hk.2) (.slice Ao9 t333.length co9)) (fun _ hk => hk.2) (.bool t336)) (fun _ hk => hk.2) (.string t337)) (fun _ hk => trivial), by repeat (first | (with_reducible first | exact HB.out | apply below_alloc | apply pw_below_drewN | apply below_drew1 | refine below_set ?_ (IsS57.ge HI331.out) | refine below_set ?_ GE328.out) | exact HB.out)⟩

/-! ### laws_FnAddrOne: function 7 -/
mutual
def laws_FnAddrOne.j0 : Nat → List Int → List Int → Bool → Option (Bool)
 | 0, _, _, _ => none
 | k + 1, x0, x1, x16 => if x16 = true then (some true) else ((spec_DrawAddrText.f k x0).bind fun bt344 => ((spec_DrawAddrText.f k x1).bind fun bt351 => ((impl_AddrText.f k bt344.1 bt344.2.1 bt344.2.2.1 bt344.2.2.2).bind fun t358 => ((impl_AddrText.f k bt351.1 bt351.2.1 bt351.2.2.1 bt351.2.2.2).bind fun t359 => ((spec_AddrText.f k bt344.1 bt344.2.1 bt344.2.2.1 bt344.2.2.2).bind fun t360 => (if t358.toList = t360.toList then ((spec_AddrText.f k bt351.1 bt351.2.1 bt351.2.2.1 bt351.2.2.2).bind fun t361 => (if t359.toList = t361.toList then (if t358.toList = ([] : List UInt8) then (laws_FnAddrOne.j1 k t358 t359 true bt344.1 bt344.2.1 bt344.2.2.1 bt344.2.2.2 bt351.1 bt351.2.1 bt351.2.2.1 bt351.2.2.2) else (laws_FnAddrOne.j1 k t358 t359 (t359.toList == ([] : List UInt8)) bt344.1 bt344.2.1 bt344.2.2.1 bt344.2.2.2 bt351.1 bt351.2.1 bt351.2.2.1 bt351.2.2.2)) else (laws_FnAddrOne.j1 k t358 t359 true bt344.1 bt344.2.1 bt344.2.2.1 bt344.2.2.2 bt351.1 bt351.2.1 bt351.2.2.1 bt351.2.2.2))) else (laws_FnAddrOne.j1 k t358 t359 true bt344.1 bt344.2.1 bt344.2.2.1 bt344.2.2.2 bt351.1 bt351.2.1 bt351.2.2.1 bt351.2.2.2)))))))
def laws_FnAddrOne.j1 : Nat → ByteArray → ByteArray → Bool → ByteArray → List ByteArray → Bool → ByteArray → ByteArray → List ByteArray → Bool → ByteArray → Option (Bool)
 | 0, _, _, _, _, _, _, _, _, _, _, _ => none
 | k + 1, x7, x8, x42, x351000, x351001, x351002, x351003, x358000, x358001, x358002, x358003 => if x42 = true then ((spec_AddrText.f k x351000 x351001 x351002 x351003).bind fun t362 => (if x7.toList = t362.toList then ((spec_AddrText.f k x358000 x358001 x358002 x358003).bind fun t363 => (some (x8.toList == t363.toList))) else (some false))) else ((laws_lpAddr.f k x351000 x351001 x351002 x351003 x358000 x358001 x358002 x358003).bind fun t364 => (some ((x7.toList == x8.toList) == t364)))
end
def laws_FnAddrOne.f (k : Nat) (l0 : List Int) (l1 : List Int) : Option (Bool) := if (l0.length : Int) > 1048576 then (laws_FnAddrOne.j0 k l0 l1 true) else (laws_FnAddrOne.j0 k l0 l1 (decide ((l1.length : Int) > 1048576)))
theorem laws_FnAddrOne.mono_l : ∀ k, (∀ y0 y1 y2, LeO (laws_FnAddrOne.j0 k y0 y1 y2) (laws_FnAddrOne.j0 (k + 1) y0 y1 y2)) ∧ (∀ y0 y1 y2 y3 y4 y5 y6 y7 y8 y9 y10, LeO (laws_FnAddrOne.j1 k y0 y1 y2 y3 y4 y5 y6 y7 y8 y9 y10) (laws_FnAddrOne.j1 (k + 1) y0 y1 y2 y3 y4 y5 y6 y7 y8 y9 y10))
 | 0 => ⟨fun _ _ _ r h => by simp [laws_FnAddrOne.j0] at h, fun _ _ _ _ _ _ _ _ _ _ _ r h => by simp [laws_FnAddrOne.j1] at h⟩
 | k + 1 => by
  obtain ⟨ih0, ih1⟩ := laws_FnAddrOne.mono_l k
  refine ⟨?_, ?_⟩
  ·intro y0 y1 y2
   unfold laws_FnAddrOne.j0
   repeat' first
   | (with_reducible exact ih0 _ _ _)
   | (with_reducible exact ih1 _ _ _ _ _ _ _ _ _ _ _)
   | (with_reducible exact impl_AddrText.mono _ _ _ _ _)
   | (with_reducible exact laws_lpAddr.mono _ _ _ _ _ _ _ _ _)
   | (with_reducible exact spec_AddrText.mono _ _ _ _ _)
   | (with_reducible exact spec_DrawAddrText.mono _ _)
   | (with_reducible exact LeO.refl _)
   | (with_reducible exact LeO.none _)
   | (with_reducible refine LeO.ite ?_ ?_)
   | (with_reducible refine LeO.bind ?_ (fun _ => ?_))
   | exact ih0 _ _ _
   | exact ih1 _ _ _ _ _ _ _ _ _ _ _
   | exact impl_AddrText.mono _ _ _ _ _
   | exact laws_lpAddr.mono _ _ _ _ _ _ _ _ _
   | exact spec_AddrText.mono _ _ _ _ _
   | exact spec_DrawAddrText.mono _ _
   | exact LeO.none _
   | refine LeO.ite ?_ ?_
   | refine LeO.bind ?_ (fun _ => ?_)
  ·intro y0 y1 y2 y3 y4 y5 y6 y7 y8 y9 y10
   unfold laws_FnAddrOne.j1
   repeat' first
   | (with_reducible exact ih0 _ _ _)
   | (with_reducible exact ih1 _ _ _ _ _ _ _ _ _ _ _)
   | (with_reducible exact impl_AddrText.mono _ _ _ _ _)
   | (with_reducible exact laws_lpAddr.mono _ _ _ _ _ _ _ _ _)
   | (with_reducible exact spec_AddrText.mono _ _ _ _ _)
   | (with_reducible exact spec_DrawAddrText.mono _ _)
   | (with_reducible exact LeO.refl _)
   | (with_reducible exact LeO.none _)
   | (with_reducible refine LeO.ite ?_ ?_)
   | (with_reducible refine LeO.bind ?_ (fun _ => ?_))
   | exact ih0 _ _ _
   | exact ih1 _ _ _ _ _ _ _ _ _ _ _
   | exact impl_AddrText.mono _ _ _ _ _
   | exact laws_lpAddr.mono _ _ _ _ _ _ _ _ _
   | exact spec_AddrText.mono _ _ _ _ _
   | exact spec_DrawAddrText.mono _ _
   | exact LeO.none _
   | refine LeO.ite ?_ ?_
   | refine LeO.bind ?_ (fun _ => ?_)
theorem laws_FnAddrOne.mono : ∀ a0 a1 k, LeO (laws_FnAddrOne.f k a0 a1) (laws_FnAddrOne.f (k + 1) a0 a1) := by
 intro a0 a1 k
 obtain ⟨ih0, ih1⟩ := laws_FnAddrOne.mono_l k
 unfold laws_FnAddrOne.f
 repeat' first
   | (with_reducible exact ih0 _ _ _)
   | (with_reducible exact ih1 _ _ _ _ _ _ _ _ _ _ _)
   | (with_reducible exact impl_AddrText.mono _ _ _ _ _)
   | (with_reducible exact laws_lpAddr.mono _ _ _ _ _ _ _ _ _)
   | (with_reducible exact spec_AddrText.mono _ _ _ _ _)
   | (with_reducible exact spec_DrawAddrText.mono _ _)
   | (with_reducible exact LeO.refl _)
   | (with_reducible exact LeO.none _)
   | (with_reducible refine LeO.ite ?_ ?_)
   | (with_reducible refine LeO.bind ?_ (fun _ => ?_))
   | exact ih0 _ _ _
   | exact ih1 _ _ _ _ _ _ _ _ _ _ _
   | exact impl_AddrText.mono _ _ _ _ _
   | exact laws_lpAddr.mono _ _ _ _ _ _ _ _ _
   | exact spec_AddrText.mono _ _ _ _ _
   | exact spec_DrawAddrText.mono _ _
   | exact LeO.none _
   | refine LeO.ite ?_ ?_
   | refine LeO.bind ?_ (fun _ => ?_)
theorem laws_FnAddrOne.calls (k : Nat) (A0 : Option Addr) (c0 : Nat) (l0 : List Int) (A1 : Option Addr) (c1 : Nat) (l1 : List Int) (r : Bool) (w : World) (hr0 : Kd.C (Kd.int .u8) w A0 l0.length l0) (hc0 : l0.length ≤ c0) (hr1 : Kd.C (Kd.int .u8) w A1 l1.length l1) (hc1 : l1.length ≤ c1) (h : laws_FnAddrOne.f k l0 l1 = some r) :
  Calls Try.prog 7 #[.slice A0 l0.length c0, .slice A1 l1.length c1] w fun e w' => e = .returned (.bool r) ∧ Below w.heap.size w w' := by
 have hu27 := Try.underlying27
 have HR0 := Aside0.mk hr0
 have HC0 := Aside0.mk hc0
 clear hr0 hc0
 have HR1 := Aside0.mk hr1
 have HC1 := Aside0.mk hc1
 clear hr1 hc1
 have HB := Aside0.mk (Below.refl w.heap.size w)
 have H : (if (l0.length : Int) > 1048576 then (laws_FnAddrOne.j0 k l0 l1 true) else (laws_FnAddrOne.j0 k l0 l1 (decide ((l1.length : Int) > 1048576)))) = some r := h
 clear h
 have HC3 := Aside0.mk H
 clear H
 go_enter Try.func7, Try.ntmps7
 go_upto_region 1 with (fail)
 go_cut [16] (fun v16 wc => ∃ (kq : Nat) (x16_2 : Bool), v16 = .bool x16_2 ∧ Aside0 (laws_FnAddrOne.j0 kq l0 l1 x16_2 = some r) ∧ Aside0 (kq ≤ k) ∧ Aside0 (Below w.heap.size w wc))
 case first =>
  have H := HC3.out
  clear HC3
  by_cases c4 : (l0.length : Int) > 1048576
  ·rw [if_pos c4] at H
   have c4b0 : decide (1048576 < (l0.length : Int)) = true := decide_eq_true c4
   have c4b1 : decide (1048576 < l0.length) = true := decide_eq_true (by omega)
   clear c4
   (first | rw [c4b0] | (simp only [i64_w, i32_w]; rw [c4b0]) | skip)
   have H' := Aside0.mk H
   clear H
   go_wp2
   go_meet
   case rel => exact ⟨_, (true), (by first | rfl | (simp; done) | (simp only [i64_w, i32_w]; done) | (simp only [i64_w, i32_w]; rfl) | (simp [*]; done) | (simp [emp_bne, emp_beq]; done)), H', ⟨by first | omega | exact Nat.le_refl _⟩, ⟨by repeat (first | (with_reducible first | exact HB.out | apply below_alloc | apply pw_below_drewN | apply below_drew1) | exact HB.out)⟩⟩
  ·rw [if_neg c4] at H
   have c4b0 : decide (1048576 < (l0.length : Int)) = false := decide_eq_false c4
   have c4b1 : decide (1048576 < l0.length) = false := decide_eq_false (by omega)
   clear c4
   (first | rw [c4b0] | (simp only [i64_w, i32_w]; rw [c4b0]) | skip)
   have H' := Aside0.mk H
   clear H
   go_wp2
   go_meet
   case rel => exact ⟨_, (decide ((l1.length : Int) > 1048576)), (by first | rfl | (simp; done) | (simp only [i64_w, i32_w]; done) | (simp only [i64_w, i32_w]; rfl) | (simp [*]; done) | (simp [emp_bne, emp_beq]; done)), H', ⟨by first | omega | exact Nat.le_refl _⟩, ⟨by repeat (first | (with_reducible first | exact HB.out | apply below_alloc | apply pw_below_drewN | apply below_drew1) | exact HB.out)⟩⟩
 case rest =>
  clear HC3
  try clear c1
  try clear p2
  try clear c4
  try clear c4b0
  try clear c4b1
  obtain ⟨kq, x16_2, rfl, HA, HJ2, HB⟩ := hcut
  cases kq with
  | zero => exact absurd HA.out (by simp [laws_FnAddrOne.j0])
  | succ kj2 =>
   have H := HA.out
   clear HA
   simp only [laws_FnAddrOne.j0] at H
   by_cases c5 : x16_2 = true
   ·subst c5
    have H1 : (some true) = some r := by rw [if_pos rfl] at H; exact H
    clear H
    have H := H1
    clear H1
    obtain rfl := Option.some.inj H
    go_wp2
    go_ret
    exact ⟨by first | rfl | (simp <;> rfl) | (simp [*] <;> rfl), by repeat (first | (with_reducible first | exact HB.out | apply below_alloc | apply pw_below_drewN | apply below_drew1) | exact HB.out)⟩
   ·replace c5 := Bool.eq_false_iff.mpr c5
    subst c5
    have H1 : ((spec_DrawAddrText.f kj2 l0).bind fun bt344 => ((spec_DrawAddrText.f kj2 l1).bind fun bt351 => ((impl_AddrText.f kj2 bt344.1 bt344.2.1 bt344.2.2.1 bt344.2.2.2).bind fun t358 => ((impl_AddrText.f kj2 bt351.1 bt351.2.1 bt351.2.2.1 bt351.2.2.2).bind fun t359 => ((spec_AddrText.f kj2 bt344.1 bt344.2.1 bt344.2.2.1 bt344.2.2.2).bind fun t360 => (if t358.toList = t360.toList then ((spec_AddrText.f kj2 bt351.1 bt351.2.1 bt351.2.2.1 bt351.2.2.2).bind fun t361 => (if t359.toList = t361.toList then (if t358.toList = ([] : List UInt8) then (laws_FnAddrOne.j1 kj2 t358 t359 true bt344.1 bt344.2.1 bt344.2.2.1 bt344.2.2.2 bt351.1 bt351.2.1 bt351.2.2.1 bt351.2.2.2) else (laws_FnAddrOne.j1 kj2 t358 t359 (t359.toList == ([] : List UInt8)) bt344.1 bt344.2.1 bt344.2.2.1 bt344.2.2.2 bt351.1 bt351.2.1 bt351.2.2.1 bt351.2.2.2)) else (laws_FnAddrOne.j1 kj2 t358 t359 true bt344.1 bt344.2.1 bt344.2.2.1 bt344.2.2.2 bt351.1 bt351.2.1 bt351.2.2.1 bt351.2.2.2))) else (laws_FnAddrOne.j1 kj2 t358 t359 true bt344.1 bt344.2.1 bt344.2.2.1 bt344.2.2.2 bt351.1 bt351.2.1 bt351.2.2.1 bt351.2.2.2))))))) = some r := by rw [if_neg (show ¬ (false = true) by decide)] at H; exact H
    clear H
    have H := H1
    clear H1
    replace H := Option.bind_eq_some_iff.mp H
    obtain ⟨⟨t344, t345, t348, t349⟩, A60, H⟩ := H
    replace H : ((spec_DrawAddrText.f kj2 l1).bind fun bt351 => ((impl_AddrText.f kj2 t344 t345 t348 t349).bind fun t358 => ((impl_AddrText.f kj2 bt351.1 bt351.2.1 bt351.2.2.1 bt351.2.2.2).bind fun t359 => ((spec_AddrText.f kj2 t344 t345 t348 t349).bind fun t360 => (if t358.toList = t360.toList then ((spec_AddrText.f kj2 bt351.1 bt351.2.1 bt351.2.2.1 bt351.2.2.2).bind fun t361 => (if t359.toList = t361.toList then (if t358.toList = ([] : List UInt8) then (laws_FnAddrOne.j1 kj2 t358 t359 true t344 t345 t348 t349 bt351.1 bt351.2.1 bt351.2.2.1 bt351.2.2.2) else (laws_FnAddrOne.j1 kj2 t358 t359 (t359.toList == ([] : List UInt8)) t344 t345 t348 t349 bt351.1 bt351.2.1 bt351.2.2.1 bt351.2.2.2)) else (laws_FnAddrOne.j1 kj2 t358 t359 true t344 t345 t348 t349 bt351.1 bt351.2.1 bt351.2.2.1 bt351.2.2.2))) else (laws_FnAddrOne.j1 kj2 t358 t359 true t344 t345 t348 t349 bt351.1 bt351.2.1 bt351.2.2.1 bt351.2.2.2)))))) = some r := H
    have A6 := Aside0.mk A60
    clear A60
    replace H := Option.bind_eq_some_iff.mp H
    obtain ⟨⟨t351, t352, t355, t356⟩, A70, H⟩ := H
    replace H : ((impl_AddrText.f kj2 t344 t345 t348 t349).bind fun t358 => ((impl_AddrText.f kj2 t351 t352 t355 t356).bind fun t359 => ((spec_AddrText.f kj2 t344 t345 t348 t349).bind fun t360 => (if t358.toList = t360.toList then ((spec_AddrText.f kj2 t351 t352 t355 t356).bind fun t361 => (if t359.toList = t361.toList then (if t358.toList = ([] : List UInt8) then (laws_FnAddrOne.j1 kj2 t358 t359 true t344 t345 t348 t349 t351 t352 t355 t356) else (laws_FnAddrOne.j1 kj2 t358 t359 (t359.toList == ([] : List UInt8)) t344 t345 t348 t349 t351 t352 t355 t356)) else (laws_FnAddrOne.j1 kj2 t358 t359 true t344 t345 t348 t349 t351 t352 t355 t356))) else (laws_FnAddrOne.j1 kj2 t358 t359 true t344 t345 t348 t349 t351 t352 t355 t356))))) = some r := H
    have A7 := Aside0.mk A70
    clear A70
    replace H := Option.bind_eq_some_iff.mp H
    obtain ⟨t358, A80, H⟩ := H
    replace H : ((impl_AddrText.f kj2 t351 t352 t355 t356).bind fun t359 => ((spec_AddrText.f kj2 t344 t345 t348 t349).bind fun t360 => (if t358.toList = t360.toList then ((spec_AddrText.f kj2 t351 t352 t355 t356).bind fun t361 => (if t359.toList = t361.toList then (if t358.toList = ([] : List UInt8) then (laws_FnAddrOne.j1 kj2 t358 t359 true t344 t345 t348 t349 t351 t352 t355 t356) else (laws_FnAddrOne.j1 kj2 t358 t359 (t359.toList == ([] : List UInt8)) t344 t345 t348 t349 t351 t352 t355 t356)) else (laws_FnAddrOne.j1 kj2 t358 t359 true t344 t345 t348 t349 t351 t352 t355 t356))) else (laws_FnAddrOne.j1 kj2 t358 t359 true t344 t345 t348 t349 t351 t352 t355 t356)))) = some r := H
    have A8 := Aside0.mk A80
    clear A80
    replace H := Option.bind_eq_some_iff.mp H
    obtain ⟨t359, A90, H⟩ := H
    replace H : ((spec_AddrText.f kj2 t344 t345 t348 t349).bind fun t360 => (if t358.toList = t360.toList then ((spec_AddrText.f kj2 t351 t352 t355 t356).bind fun t361 => (if t359.toList = t361.toList then (if t358.toList = ([] : List UInt8) then (laws_FnAddrOne.j1 kj2 t358 t359 true t344 t345 t348 t349 t351 t352 t355 t356) else (laws_FnAddrOne.j1 kj2 t358 t359 (t359.toList == ([] : List UInt8)) t344 t345 t348 t349 t351 t352 t355 t356)) else (laws_FnAddrOne.j1 kj2 t358 t359 true t344 t345 t348 t349 t351 t352 t355 t356))) else (laws_FnAddrOne.j1 kj2 t358 t359 true t344 t345 t348 t349 t351 t352 t355 t356))) = some r := H
    have A9 := Aside0.mk A90
    clear A90
    have HC10 := Aside0.mk H
    clear H
    go_upto_region 7 with (first | ((with_reducible refine gate_callee (f := 20) rfl ?_); refine goesL_ (some 18) rfl rfl Try.func20 (by kernel_rfl) rfl #[.slice A0 l0.length c0] rfl (by (try simp only [List.map_toArray, List.map_cons, List.map_nil]); first | done | rfl | (simp only [List.length_drop, List.length_take]; rfl)) ?_; (with_reducible refine (spec_DrawAddrText.calls kj2 _ _ l0 t344 t345 t348 t349 _ ?side1 ?side2 A6.out).mono ?_); (case side1 => repeat (first | exact (Kd.C_below HR0.out HB.out) | (with_reducible refine Kd.C_alloc ?_ _) | (with_reducible refine Kd.C_drewN ?_ _) | (with_reducible refine Kd.C_drew ?_))); (case side2 => exact HC0.out); rintro e w11 ⟨v346, rfl, ho0, hb⟩; refine ⟨_, rfl, ?_⟩; have n0_ := Aside0.mk (Kd.R_lower ho0 (below_size (by repeat (first | (with_reducible first | exact HB.out | apply below_alloc | apply pw_below_drewN | apply below_drew1) | exact HB.out)))); have n1_ := Aside0.mk (below_step (by repeat (first | (with_reducible first | exact HB.out | apply below_alloc | apply pw_below_drewN | apply below_drew1) | exact HB.out)) hb); clear HB; have HO347 := n0_; have HB := n1_; clear n0_ n1_; (try clear hb); (try clear hb2); (try clear hk); (try clear hi); (try clear ho0)) | ((with_reducible refine gate_dst (N := 5) rfl ?_); (try (refine gate_guard (by rfl) ?_; dsimp only)); refine box_event ?hg (N := 5) ?hd (cs := #[.string (⟨#[]⟩ : ByteArray), .slice none 0 0, .bool false, .string (⟨#[]⟩ : ByteArray)]) (t := 27) ?hr ?_; (case hd => rfl); (case hg => rfl); (case hr => first | (go_simp; done) | (go_simp; rfl)); intro gb350 hg w12 hbox hb; have n0_ := Aside0.mk (Kd.R_below (by (with_reducible repeat (first | apply Kd.R_alloc | apply Kd.R_drewN | apply Kd.R_drew)); exact HO347.out) hb); have n1_ := Aside0.mk (below_step (by repeat (first | (with_reducible first | exact HB.out | apply below_alloc | apply pw_below_drewN | apply below_drew1) | exact HB.out)) hb); have n2_ := Aside0.mk (hbox); have n3_ := Aside0.mk ((by rw [hg]; exact (below_size (by repeat (first | (with_reducible first | exact HB.out | apply below_alloc | apply pw_below_drewN | apply below_drew1) | exact HB.out))) : w.heap.size ≤ gb350)); have n4_ := n3_; clear HO347; clear HB; have HO347 := n0_; have HB := n1_; have BK350 := n2_; have GW350 := n3_; have GE350 := n4_; clear n0_ n1_ n2_ n3_ n4_; clear hb hbox hg; have hcz13_0 : w12.cell? ⟨gb350, 0, none⟩ = some (.string (⟨#[]⟩ : ByteArray)) := (blk_cell BK350.out 0).trans rfl; have hcz13_1 : w12.cell? ⟨gb350, 1, none⟩ = some (.slice none 0 0) := (blk_cell BK350.out 1).trans rfl; have hcz13_2 : w12.cell? ⟨gb350, 2, none⟩ = some (.bool false) := (blk_cell BK350.out 2).trans rfl; have hcz13_3 : w12.cell? ⟨gb350, 3, none⟩ = some (.string (⟨#[]⟩ : ByteArray)) := (blk_cell BK350.out 3).trans rfl; have hfz13_0 := blk_frozen BK350.out 0; have hfz13_1 := blk_frozen BK350.out 1; have hfz13_2 := blk_frozen BK350.out 2; have hfz13_3 := blk_frozen BK350.out 3; obtain ⟨Ao14, co14, eo14⟩ := Kd.R_slice HO347.out; subst eo14) | ((with_reducible refine gate_callee (f := 20) rfl ?_); refine goesL_ (some 20) rfl rfl Try.func20 (by kernel_rfl) rfl #[.slice A1 l1.length c1] rfl (by (try simp only [List.map_toArray, List.map_cons, List.map_nil]); first | done | rfl | (simp only [List.length_drop, List.length_take]; rfl)) ?_; (with_reducible refine (spec_DrawAddrText.calls kj2 _ _ l1 t351 t352 t355 t356 _ ?side1 ?side2 A7.out).mono ?_); (case side1 => exact Kd.C_below HR1.out (by repeat (first | (with_reducible first | exact HB.out | apply below_alloc | apply pw_below_drewN | apply below_drew1 | refine below_set ?_ GE350.out) | exact HB.out))); (case side2 => exact HC1.out); rintro e w15 ⟨v353, rfl, ho0, hb⟩; refine ⟨_, rfl, ?_⟩; have n0_ := Aside0.mk (Kd.R_elder' (by (with_reducible repeat (first | apply Kd.R_alloc | apply Kd.R_drewN | apply Kd.R_drew)); exact (Kd.R_mono (Kd.R_far (p := ⟨gb350, 3, none⟩) (Kd.R_far (p := ⟨gb350, 2, none⟩) (Kd.R_far (p := ⟨gb350, 1, none⟩) (Kd.R_far (p := ⟨gb350, 0, none⟩) (Kd.R_types HO347.out BK350.out (by decide)) (fun _ hk => hk.2) (.string t344)) (fun _ hk => hk.2) (.slice Ao14 t345.length co14)) (fun _ hk => hk.2) (.bool t348)) (fun _ hk => hk.2) (.string t349)) (fun _ h_ => h_.1))) (Kd.R_base ho0) hb); have n1_ := Aside0.mk (Kd.R_lower (Kd.R_new' ho0 (Kd.R_lt (by (with_reducible repeat (first | apply Kd.R_alloc | apply Kd.R_drewN | apply Kd.R_drew)); exact (Kd.R_mono (Kd.R_far (p := ⟨gb350, 3, none⟩) (Kd.R_far (p := ⟨gb350, 2, none⟩) (Kd.R_far (p := ⟨gb350, 1, none⟩) (Kd.R_far (p := ⟨gb350, 0, none⟩) (Kd.R_types HO347.out BK350.out (by decide)) (fun _ hk => hk.2) (.string t344)) (fun _ hk => hk.2) (.slice Ao14 t345.length co14)) (fun _ hk => hk.2) (.bool t348)) (fun _ hk => hk.2) (.string t349)) (fun _ h_ => h_.1))))) (below_size (by repeat (first | (with_reducible first | exact HB.out | apply below_alloc | apply pw_below_drewN | apply below_drew1 | refine below_set ?_ GE350.out) | exact HB.out)))); have n2_ := Aside0.mk (blk_below (g := gb350) (o := .cells #[.string t344, .slice Ao14 t345.length co14, .bool t348, .string t349] 27 (0, 0)) (by (with_reducible repeat (first | refine blk_drewN ?_ _ | refine blk_drew ?_ | refine blk_alloc ?_ _)); refine blk_put (cs := #[.string t344, .slice Ao14 t345.length co14, .bool t348, .string (⟨#[]⟩ : ByteArray)]) ?_ 3 _ rfl; (with_reducible repeat (first | refine blk_drewN ?_ _ | refine blk_drew ?_ | refine blk_alloc ?_ _)); refine blk_put (cs := #[.string t344, .slice Ao14 t345.length co14, .bool false, .string (⟨#[]⟩ : ByteArray)]) ?_ 2 _ rfl; (with_reducible repeat (first | refine blk_drewN ?_ _ | refine blk_drew ?_ | refine blk_alloc ?_ _)); refine blk_put (cs := #[.string t344, .slice none 0 0, .bool false, .string (⟨#[]⟩ : ByteArray)]) ?_ 1 _ rfl; (with_reducible repeat (first | refine blk_drewN ?_ _ | refine blk_drew ?_ | refine blk_alloc ?_ _)); refine blk_put (cs := #[.string (⟨#[]⟩ : ByteArray), .slice none 0 0, .bool false, .string (⟨#[]⟩ : ByteArray)]) ?_ 0 _ rfl; (with_reducible repeat (first | refine blk_drewN ?_ _ | refine blk_drew ?_ | refine blk_alloc ?_ _)); exact BK350.out) hb); have n3_ := Aside0.mk (below_step (by repeat (first | (with_reducible first | exact HB.out | apply below_alloc | apply pw_below_drewN | apply below_drew1 | refine below_set ?_ GE350.out) | exact HB.out)) hb); clear HO347; clear BK350; clear HB; have HO347 := n0_; have HO354 := n1_; have BK350 := n2_; have HB := n3_; clear n0_ n1_ n2_ n3_; (try clear hb); (try clear hb2); (try clear hk); (try clear hi); (try clear ho0)) | ((with_reducible refine gate_dst (N := 6) rfl ?_); (try (refine gate_guard (by rfl) ?_; dsimp only)); refine box_event ?hg (N := 6) ?hd (cs := #[.string (⟨#[]⟩ : ByteArray), .slice none 0 0, .bool false, .string (⟨#[]⟩ : ByteArray)]) (t := 27) ?hr ?_; (case hd => rfl); (case hg => rfl); (case hr => first | (go_simp; done) | (go_simp; rfl)); intro gb357 hg w16 hbox hb; have n0_ := Aside0.mk (Kd.R_below (by (with_reducible repeat (first | apply Kd.R_alloc | apply Kd.R_drewN | apply Kd.R_drew)); exact HO347.out) hb); have n1_ := Aside0.mk (Kd.R_below (by (with_reducible repeat (first | apply Kd.R_alloc | apply Kd.R_drewN | apply Kd.R_drew)); exact HO354.out) hb); have n2_ := Aside0.mk (blk_below (g := gb350) (o := .cells #[.string t344, .slice Ao14 t345.length co14, .bool t348, .string t349] 27 (0, 0)) (by (with_reducible repeat (first | refine blk_drewN ?_ _ | refine blk_drew ?_ | refine blk_alloc ?_ _)); exact BK350.out) hb); have n3_ := Aside0.mk (below_step (by repeat (first | (with_reducible first | exact HB.out | apply below_alloc | apply pw_below_drewN | apply below_drew1 | refine below_set ?_ GE350.out) | exact HB.out)) hb); have n4_ := Aside0.mk (hbox); have n5_ := Aside0.mk ((by rw [hg]; exact (below_size (by repeat (first | (with_reducible first | exact HB.out | apply below_alloc | apply pw_below_drewN | apply below_drew1 | refine below_set ?_ GE350.out) | exact HB.out))) : w.heap.size ≤ gb357)); have n6_ := n5_; have n7_ := Aside0.mk ((by rw [hg]; exact Nat.ne_of_lt (blk_lt (g := gb350) (o := .cells #[.string t344, .slice Ao14 t345.length co14, .bool t348, .string t349] 27 (0, 0)) (by (with_reducible repeat (first | refine blk_drewN ?_ _ | refine blk_drew ?_ | refine blk_alloc ?_ _)); exact BK350.out)) : gb350 ≠ gb357)); have n8_ := Aside0.mk ((by rw [hg]; exact Nat.ne_of_gt (blk_lt (g := gb350) (o := .cells #[.string t344, .slice Ao14 t345.length co14, .bool t348, .string t349] 27 (0, 0)) (by (with_reducible repeat (first | refine blk_drewN ?_ _ | refine blk_drew ?_ | refine blk_alloc ?_ _)); exact BK350.out)) : gb357 ≠ gb350)); clear HO347; clear HO354; clear BK350; clear HB; have HO347 := n0_; have HO354 := n1_; have BK350 := n2_; have HB := n3_; have BK357 := n4_; have GW357 := n5_; have GE357 := n6_; have NB350_357 := n7_; have NB357_350 := n8_; clear n0_ n1_ n2_ n3_ n4_ n5_ n6_ n7_ n8_; clear hb hbox hg; have hnb17 := NB357_350.out; have hnc17 := NB350_357.out; have hcz18_0 : w16.cell? ⟨gb357, 0, none⟩ = some (.string (⟨#[]⟩ : ByteArray)) := (blk_cell BK357.out 0).trans rfl; have hcz18_1 : w16.cell? ⟨gb357, 1, none⟩ = some (.slice none 0 0) := (blk_cell BK357.out 1).trans rfl; have hcz18_2 : w16.cell? ⟨gb357, 2, none⟩ = some (.bool false) := (blk_cell BK357.out 2).trans rfl; have hcz18_3 : w16.cell? ⟨gb357, 3, none⟩ = some (.string (⟨#[]⟩ : ByteArray)) := (blk_cell BK357.out 3).trans rfl; have hfz18_0 := blk_frozen BK357.out 0; have hfz18_1 := blk_frozen BK357.out 1; have hfz18_2 := blk_frozen BK357.out 2; have hfz18_3 := blk_frozen BK357.out 3; obtain ⟨Ao19, co19, eo19⟩ := Kd.R_slice HO354.out; subst eo19; have hcz20_0 : w16.cell? ⟨gb350, 0, none⟩ = some (.string t344) := (blk_cell BK350.out 0).trans rfl; have hcz20_1 : w16.cell? ⟨gb350, 1, none⟩ = some (.slice Ao14 t345.length co14) := (blk_cell BK350.out 1).trans rfl; have hcz20_2 : w16.cell? ⟨gb350, 2, none⟩ = some (.bool t348) := (blk_cell BK350.out 2).trans rfl; have hcz20_3 : w16.cell? ⟨gb350, 3, none⟩ = some (.string t349) := (blk_cell BK350.out 3).trans rfl; have hfz20_0 := blk_frozen BK350.out 0; have hfz20_1 := blk_frozen BK350.out 1; have hfz20_2 := blk_frozen BK350.out 2; have hfz20_3 := blk_frozen BK350.out 3) | ((with_reducible refine gate_callee (f := 18) rfl ?_); refine goesL_ (some 22) rfl rfl Try.func18 (by kernel_rfl) rfl #[.agg #[.string t344, .slice Ao14 t345.length co14, .bool t348, .string t349]] rfl (by (try simp only [List.map_toArray, List.map_cons, List.map_nil]); first | done | rfl | (simp only [List.length_drop, List.length_take]; rfl)) ?_; (with_reducible refine (impl_AddrText.calls kj2 t344 _ _ t345 t348 t349 t358 _ ?side1 ?side2 A8.out).mono ?_); (case side1 => refine (Kd.R_reads' (e := 9) (base := w.heap.size) (ok := fun k_ => (True ∧ some k_ ≠ (.slice Ao19 t352.length co19 : Value).ownBlock)) (n := t345.length) (c := co14) ?_).2.2; exact (by (with_reducible repeat (first | apply Kd.R_alloc | apply Kd.R_drewN | apply Kd.R_drew)); exact (Kd.R_mono (Kd.R_far (p := ⟨gb357, 3, none⟩) (Kd.R_far (p := ⟨gb357, 2, none⟩) (Kd.R_far (p := ⟨gb357, 1, none⟩) (Kd.R_far (p := ⟨gb357, 0, none⟩) (Kd.R_types HO347.out BK357.out (by decide)) (fun _ hk => hk.2) (.string t351)) (fun _ hk => hk.2) (.slice Ao19 t352.length co19)) (fun _ hk => hk.2) (.bool t355)) (fun _ hk => hk.2) (.string t356)) (fun _ h_ => h_.1)))); (case side2 => exact (Kd.R_reads' HO347.out).2.1); rintro e w21 ⟨rfl, hb⟩; refine ⟨_, rfl, ?_⟩; have n0_ := Aside0.mk (Kd.R_below (by (with_reducible repeat (first | apply Kd.R_alloc | apply Kd.R_drewN | apply Kd.R_drew)); exact (Kd.R_mono (Kd.R_far (p := ⟨gb357, 3, none⟩) (Kd.R_far (p := ⟨gb357, 2, none⟩) (Kd.R_far (p := ⟨gb357, 1, none⟩) (Kd.R_far (p := ⟨gb357, 0, none⟩) (Kd.R_types HO347.out BK357.out (by decide)) (fun _ hk => hk.2) (.string t351)) (fun _ hk => hk.2) (.slice Ao19 t352.length co19)) (fun _ hk => hk.2) (.bool t355)) (fun _ hk => hk.2) (.string t356)) (fun _ h_ => h_.1))) hb); have n1_ := Aside0.mk (Kd.R_below (by (with_reducible repeat (first | apply Kd.R_alloc | apply Kd.R_drewN | apply Kd.R_drew)); exact (Kd.R_mono (Kd.R_far (p := ⟨gb357, 3, none⟩) (Kd.R_far (p := ⟨gb357, 2, none⟩) (Kd.R_far (p := ⟨gb357, 1, none⟩) (Kd.R_far (p := ⟨gb357, 0, none⟩) (Kd.R_types HO354.out BK357.out (by decide)) (fun _ hk => hk.2) (.string t351)) (fun _ hk => hk.2) (.slice Ao19 t352.length co19)) (fun _ hk => hk.2) (.bool t355)) (fun _ hk => hk.2) (.string t356)) (fun _ h_ => h_.1))) hb); have n2_ := Aside0.mk (blk_below (g := gb350) (o := .cells #[.string t344, .slice Ao14 t345.length co14, .bool t348, .string t349] 27 (0, 0)) (by (with_reducible repeat (first | refine blk_drewN ?_ _ | refine blk_drew ?_ | refine blk_alloc ?_ _)); refine blk_far ?_ NB350_357.out _; (with_reducible repeat (first | refine blk_drewN ?_ _ | refine blk_drew ?_ | refine blk_alloc ?_ _)); refine blk_far ?_ NB350_357.out _; (with_reducible repeat (first | refine blk_drewN ?_ _ | refine blk_drew ?_ | refine blk_alloc ?_ _)); refine blk_far ?_ NB350_357.out _; (with_reducible repeat (first | refine blk_drewN ?_ _ | refine blk_drew ?_ | refine blk_alloc ?_ _)); refine blk_far ?_ NB350_357.out _; (with_reducible repeat (first | refine blk_drewN ?_ _ | refine blk_drew ?_ | refine blk_alloc ?_ _)); exact BK350.out) hb); have n3_ := Aside0.mk (blk_below (g := gb357) (o := .cells #[.string t351, .slice Ao19 t352.length co19, .bool t355, .string t356] 27 (0, 0)) (by (with_reducible repeat (first | refine blk_drewN ?_ _ | refine blk_drew ?_ | refine blk_alloc ?_ _)); refine blk_put (cs := #[.string t351, .slice Ao19 t352.length co19, .bool t355, .string (⟨#[]⟩ : ByteArray)]) ?_ 3 _ rfl; (with_reducible repeat (first | refine blk_drewN ?_ _ | refine blk_drew ?_ | refine blk_alloc ?_ _)); refine blk_put (cs := #[.string t351, .slice Ao19 t352.length co19, .bool false, .string (⟨#[]⟩ : ByteArray)]) ?_ 2 _ rfl; (with_reducible repeat (first | refine blk_drewN ?_ _ | refine blk_drew ?_ | refine blk_alloc ?_ _)); refine blk_put (cs := #[.string t351, .slice none 0 0, .bool false, .string (⟨#[]⟩ : ByteArray)]) ?_ 1 _ rfl; (with_reducible repeat (first | refine blk_drewN ?_ _ | refine blk_drew ?_ | refine blk_alloc ?_ _)); refine blk_put (cs := #[.string (⟨#[]⟩ : ByteArray), .slice none 0 0, .bool false, .string (⟨#[]⟩ : ByteArray)]) ?_ 0 _ rfl; (with_reducible repeat (first | refine blk_drewN ?_ _ | refine blk_drew ?_ | refine blk_alloc ?_ _)); exact BK357.out) hb); have n4_ := Aside0.mk (below_step (by repeat (first | (with_reducible first | exact HB.out | apply below_alloc | apply pw_below_drewN | apply below_drew1 | refine below_set ?_ GE350.out | refine below_set ?_ GE357.out) | exact HB.out)) hb); clear HO347; clear HO354; clear BK350; clear BK357; clear HB; have HO347 := n0_; have HO354 := n1_; have BK350 := n2_; have BK357 := n3_; have HB := n4_; clear n0_ n1_ n2_ n3_ n4_; (try clear hb); (try clear hb2); (try clear hk); (try clear hi); have hcz22_0 : w21.cell? ⟨gb357, 0, none⟩ = some (.string t351) := (blk_cell BK357.out 0).trans rfl; have hcz22_1 : w21.cell? ⟨gb357, 1, none⟩ = some (.slice Ao19 t352.length co19) := (blk_cell BK357.out 1).trans rfl; have hcz22_2 : w21.cell? ⟨gb357, 2, none⟩ = some (.bool t355) := (blk_cell BK357.out 2).trans rfl; have hcz22_3 : w21.cell? ⟨gb357, 3, none⟩ = some (.string t356) := (blk_cell BK357.out 3).trans rfl; have hfz22_0 := blk_frozen BK357.out 0; have hfz22_1 := blk_frozen BK357.out 1; have hfz22_2 := blk_frozen BK357.out 2; have hfz22_3 := blk_frozen BK357.out 3) | ((with_reducible refine gate_callee (f := 18) rfl ?_); refine goesL_ (some 24) rfl rfl Try.func18 (by kernel_rfl) rfl #[.agg #[.string t351, .slice Ao19 t352.length co19, .bool t355, .string t356]] rfl (by (try simp only [List.map_toArray, List.map_cons, List.map_nil]); first | done | rfl | (simp only [List.length_drop, List.length_take]; rfl)) ?_; (with_reducible refine (impl_AddrText.calls kj2 t351 _ _ t352 t355 t356 t359 _ ?side1 ?side2 A9.out).mono ?_); (case side1 => repeat (first | exact (Kd.R_reads' HO354.out).2.2 | (with_reducible refine Kd.C_alloc ?_ _) | (with_reducible refine Kd.C_drewN ?_ _) | (with_reducible refine Kd.C_drew ?_))); (case side2 => exact (Kd.R_reads' HO354.out).2.1); rintro e w23 ⟨rfl, hb⟩; refine ⟨_, rfl, ?_⟩; have n0_ := Aside0.mk (Kd.R_below (by (with_reducible repeat (first | apply Kd.R_alloc | apply Kd.R_drewN | apply Kd.R_drew)); exact HO347.out) hb); have n1_ := Aside0.mk (Kd.R_below (by (with_reducible repeat (first | apply Kd.R_alloc | apply Kd.R_drewN | apply Kd.R_drew)); exact HO354.out) hb); have n2_ := Aside0.mk (blk_below (g := gb350) (o := .cells #[.string t344, .slice Ao14 t345.length co14, .bool t348, .string t349] 27 (0, 0)) (by (with_reducible repeat (first | refine blk_drewN ?_ _ | refine blk_drew ?_ | refine blk_alloc ?_ _)); exact BK350.out) hb); have n3_ := Aside0.mk (blk_below (g := gb357) (o := .cells #[.string t351, .slice Ao19 t352.length co19, .bool t355, .string t356] 27 (0, 0)) (by (with_reducible repeat (first | refine blk_drewN ?_ _ | refine blk_drew ?_ | refine blk_alloc ?_ _)); exact BK357.out) hb); have n4_ := Aside0.mk (below_step (by repeat (first | (with_reducible first | exact HB.out | apply below_alloc | apply pw_below_drewN | apply below_drew1 | refine below_set ?_ GE350.out | refine below_set ?_ GE357.out) | exact HB.out)) hb); clear HO347; clear HO354; clear BK350; clear BK357; clear HB; have HO347 := n0_; have HO354 := n1_; have BK350 := n2_; have BK357 := n3_; have HB := n4_; clear n0_ n1_ n2_ n3_ n4_; (try clear hb); (try clear hb2); (try clear hk); (try clear hi)))
    (try simp only [Act.put, List.setIfInBounds_toArray, List.set_cons_zero, List.set_cons_succ])
    go_cut [42] (fun v42 wc => ∃ (kq : Nat) (x42_9 : Bool), v42 = .bool x42_9 ∧ Aside0 (laws_FnAddrOne.j1 kq t358 t359 x42_9 t344 t345 t348 t349 t351 t352 t355 t356 = some r) ∧ Aside0 (kq ≤ kj2) ∧ Aside0 (Kd.R Kd.string 9 wc w.heap.size (fun k_ => some k_ ≠ ((.slice Ao19 t352.length co19) : Value).ownBlock) (.slice Ao14 t345.length co14) t345) ∧ Aside0 (Kd.R Kd.string 9 wc w.heap.size (fun k_ => some k_ ≠ ((.slice Ao14 t345.length co14) : Value).ownBlock) (.slice Ao19 t352.length co19) t352) ∧ Aside0 (wc.heap[gb350]? = some (.cells #[.string t344, (.slice Ao14 t345.length co14), .bool t348, .string t349] 27 (0, 0))) ∧ Aside0 (wc.heap[gb357]? = some (.cells #[.string t351, (.slice Ao19 t352.length co19), .bool t355, .string t356] 27 (0, 0))) ∧ Aside0 (Below w.heap.size w wc))
    case first =>
     have H := HC10.out
     clear HC10
     replace H := Option.bind_eq_some_iff.mp H
     obtain ⟨t360, A240, H⟩ := H
     replace H : (if t358.toList = t360.toList then ((spec_AddrText.f kj2 t351 t352 t355 t356).bind fun t361 => (if t359.toList = t361.toList then (if t358.toList = ([] : List UInt8) then (laws_FnAddrOne.j1 kj2 t358 t359 true t344 t345 t348 t349 t351 t352 t355 t356) else (laws_FnAddrOne.j1 kj2 t358 t359 (t359.toList == ([] : List UInt8)) t344 t345 t348 t349 t351 t352 t355 t356)) else (laws_FnAddrOne.j1 kj2 t358 t359 true t344 t345 t348 t349 t351 t352 t355 t356))) else (laws_FnAddrOne.j1 kj2 t358 t359 true t344 t345 t348 t349 t351 t352 t355 t356)) = some r := H
     have A24 := Aside0.mk A240
     clear A240
     by_cases c25 : t358.toList = t360.toList
     ·rw [if_pos c25] at H
      have c25b0 : (t358.toList == t360.toList) = true := beq_iff_eq.mpr c25
      have c25b1 : (t358.toList != t360.toList) = false := bne_eq_false_iff_eq.mpr c25
      clear c25
      (first | rw [c25b0] | (simp only [i64_w, i32_w]; rw [c25b0]) | skip)
      replace H := Option.bind_eq_some_iff.mp H
      obtain ⟨t361, A260, H⟩ := H
      replace H : (if t359.toList = t361.toList then (if t358.toList = ([] : List UInt8) then (laws_FnAddrOne.j1 kj2 t358 t359 true t344 t345 t348 t349 t351 t352 t355 t356) else (laws_FnAddrOne.j1 kj2 t358 t359 (t359.toList == ([] : List UInt8)) t344 t345 t348 t349 t351 t352 t355 t356)) else (laws_FnAddrOne.j1 kj2 t358 t359 true t344 t345 t348 t349 t351 t352 t355 t356)) = some r := H
      have A26 := Aside0.mk A260
      clear A260
      by_cases c27 : t359.toList = t361.toList
      ·rw [if_pos c27] at H
       have c27b0 : (t359.toList == t361.toList) = true := beq_iff_eq.mpr c27
       have c27b1 : (t359.toList != t361.toList) = false := bne_eq_false_iff_eq.mpr c27
       clear c27
       by_cases c28 : t358.toList = ([] : List UInt8)
       ·rw [if_pos c28] at H
        (try (have c28b0 : t358.toList.isEmpty = true := by simpa using c28))
        have c28b1 : (t358.toList == ([] : List UInt8)) = true := beq_iff_eq.mpr c28
        have c28b2 : (t358.toList != ([] : List UInt8)) = false := bne_eq_false_iff_eq.mpr c28
        clear c28
        have H' := Aside0.mk H
        clear H
        have hnb29 := NB350_357.out
        have hnc29 := NB357_350.out
        have hcz30_0 : w23.cell? ⟨gb350, 0, none⟩ = some (.string t344) := (blk_cell BK350.out 0).trans rfl
        have hcz30_1 : w23.cell? ⟨gb350, 1, none⟩ = some (.slice Ao14 t345.length co14) := (blk_cell BK350.out 1).trans rfl
        have hcz30_2 : w23.cell? ⟨gb350, 2, none⟩ = some (.bool t348) := (blk_cell BK350.out 2).trans rfl
        have hcz30_3 : w23.cell? ⟨gb350, 3, none⟩ = some (.string t349) := (blk_cell BK350.out 3).trans rfl
        have hfz30_0 := blk_frozen BK350.out 0
        have hfz30_1 := blk_frozen BK350.out 1
        have hfz30_2 := blk_frozen BK350.out 2
        have hfz30_3 := blk_frozen BK350.out 3
        go_wp2_with (first | ((with_reducible refine gate_callee (f := 17) rfl ?_); refine goesL_ (some 27) rfl rfl Try.func17 (by kernel_rfl) rfl #[.agg #[.string t344, .slice Ao14 t345.length co14, .bool t348, .string t349]] rfl (by (try simp only [List.map_toArray, List.map_cons, List.map_nil]); first | done | rfl | (simp only [List.length_drop, List.length_take]; rfl)) ?_; (with_reducible refine (spec_AddrText.calls kj2 t344 _ _ t345 t348 t349 t360 _ ?side1 ?side2 A24.out).mono ?_); (case side1 => repeat (first | exact (Kd.R_reads' HO347.out).2.2 | (with_reducible refine Kd.C_alloc ?_ _) | (with_reducible refine Kd.C_drewN ?_ _) | (with_reducible refine Kd.C_drew ?_))); (case side2 => exact (Kd.R_reads' HO347.out).2.1); rintro e w31 ⟨rfl, hb⟩; refine ⟨_, rfl, ?_⟩; have n0_ := Aside0.mk (Kd.R_below (by (with_reducible repeat (first | apply Kd.R_alloc | apply Kd.R_drewN | apply Kd.R_drew)); exact HO347.out) hb); have n1_ := Aside0.mk (Kd.R_below (by (with_reducible repeat (first | apply Kd.R_alloc | apply Kd.R_drewN | apply Kd.R_drew)); exact HO354.out) hb); have n2_ := Aside0.mk (blk_below (g := gb350) (o := .cells #[.string t344, .slice Ao14 t345.length co14, .bool t348, .string t349] 27 (0, 0)) (by (with_reducible repeat (first | refine blk_drewN ?_ _ | refine blk_drew ?_ | refine blk_alloc ?_ _)); exact BK350.out) hb); have n3_ := Aside0.mk (blk_below (g := gb357) (o := .cells #[.string t351, .slice Ao19 t352.length co19, .bool t355, .string t356] 27 (0, 0)) (by (with_reducible repeat (first | refine blk_drewN ?_ _ | refine blk_drew ?_ | refine blk_alloc ?_ _)); exact BK357.out) hb); have n4_ := Aside0.mk (below_step (by repeat (first | (with_reducible first | exact HB.out | apply below_alloc | apply pw_below_drewN | apply below_drew1 | refine below_set ?_ GE350.out | refine below_set ?_ GE357.out) | exact HB.out)) hb); clear HO347; clear HO354; clear BK350; clear BK357; clear HB; have HO347 := n0_; have HO354 := n1_; have BK350 := n2_; have BK357 := n3_; have HB := n4_; clear n0_ n1_ n2_ n3_ n4_; (try clear hb); (try clear hb2); (try clear hk); (try clear hi); have hcz32_0 : w31.cell? ⟨gb357, 0, none⟩ = some (.string t351) := (blk_cell BK357.out 0).trans rfl; have hcz32_1 : w31.cell? ⟨gb357, 1, none⟩ = some (.slice Ao19 t352.length co19) := (blk_cell BK357.out 1).trans rfl; have hcz32_2 : w31.cell? ⟨gb357, 2, none⟩ = some (.bool t355) := (blk_cell BK357.out 2).trans rfl; have hcz32_3 : w31.cell? ⟨gb357, 3, none⟩ = some (.string t356) := (blk_cell BK357.out 3).trans rfl; have hfz32_0 := blk_frozen BK357.out 0; have hfz32_1 := blk_frozen BK357.out 1; have hfz32_2 := blk_frozen BK357.out 2; have hfz32_3 := blk_frozen BK357.out 3) | (go_at_call 17; (with_reducible refine (spec_AddrText.calls kj2 t351 _ _ t352 t355 t356 t361 _ ?side1 ?side2 A26.out).mono ?_); (case side1 => repeat (first | exact (Kd.R_reads' HO354.out).2.2 | (with_reducible refine Kd.C_alloc ?_ _) | (with_reducible refine Kd.C_drewN ?_ _) | (with_reducible refine Kd.C_drew ?_))); (case side2 => exact (Kd.R_reads' HO354.out).2.1); rintro e w33 ⟨rfl, hb⟩; have n0_ := Aside0.mk (Kd.R_below (by (with_reducible repeat (first | apply Kd.R_alloc | apply Kd.R_drewN | apply Kd.R_drew)); exact HO347.out) hb); have n1_ := Aside0.mk (Kd.R_below (by (with_reducible repeat (first | apply Kd.R_alloc | apply Kd.R_drewN | apply Kd.R_drew)); exact HO354.out) hb); have n2_ := Aside0.mk (blk_below (g := gb350) (o := .cells #[.string t344, .slice Ao14 t345.length co14, .bool t348, .string t349] 27 (0, 0)) (by (with_reducible repeat (first | refine blk_drewN ?_ _ | refine blk_drew ?_ | refine blk_alloc ?_ _)); exact BK350.out) hb); have n3_ := Aside0.mk (blk_below (g := gb357) (o := .cells #[.string t351, .slice Ao19 t352.length co19, .bool t355, .string t356] 27 (0, 0)) (by (with_reducible repeat (first | refine blk_drewN ?_ _ | refine blk_drew ?_ | refine blk_alloc ?_ _)); exact BK357.out) hb); have n4_ := Aside0.mk (below_step (by repeat (first | (with_reducible first | exact HB.out | apply below_alloc | apply pw_below_drewN | apply below_drew1 | refine below_set ?_ GE350.out | refine below_set ?_ GE357.out) | exact HB.out)) hb); clear HO347; clear HO354; clear BK350; clear BK357; clear HB; have HO347 := n0_; have HO354 := n1_; have BK350 := n2_; have BK357 := n3_; have HB := n4_; clear n0_ n1_ n2_ n3_ n4_; (try clear hb); (try clear hb2); (try clear hk); (try clear hi)))
        go_meet
        case rel => exact ⟨_, (true), (by first | rfl | (simp; done) | (simp only [i64_w, i32_w]; done) | (simp only [i64_w, i32_w]; rfl) | (simp [*]; done) | (simp [emp_bne, emp_beq]; done)), H', ⟨by have := HJ2.out; first | omega | exact Nat.le_refl _⟩, ⟨by (with_reducible repeat (first | apply Kd.R_alloc | apply Kd.R_drewN | apply Kd.R_drew)); exact Kd.R_mono HO347.out (fun _ hk => hk.2)⟩, ⟨by (with_reducible repeat (first | apply Kd.R_alloc | apply Kd.R_drewN | apply Kd.R_drew)); exact Kd.R_mono HO354.out (fun _ hk => hk.2)⟩, ⟨by (with_reducible repeat (first | refine blk_drewN ?_ _ | refine blk_drew ?_ | refine blk_alloc ?_ _)); exact BK350.out⟩, ⟨by (with_reducible repeat (first | refine blk_drewN ?_ _ | refine blk_drew ?_ | refine blk_alloc ?_ _)); exact BK357.out⟩, ⟨by repeat (first | (with_reducible first | exact HB.out | apply below_alloc | apply pw_below_drewN | apply below_drew1 | refine below_set ?_ GE350.out | refine below_set ?_ GE357.out) | exact HB.out)⟩⟩
       ·rw [if_neg c28] at H
        (try (have c28b0 : t358.toList.isEmpty = false := by simpa using c28))
        have c28b1 : (t358.toList == ([] : List UInt8)) = false := beq_eq_false_iff_ne.mpr c28
        have c28b2 : (t358.toList != ([] : List UInt8)) = true := bne_iff_ne.mpr c28
        have H' := Aside0.mk H
        clear H
        have hnb34 := NB350_357.out
        have hnc34 := NB357_350.out
        have hcz35_0 : w23.cell? ⟨gb350, 0, none⟩ = some (.string t344) := (blk_cell BK350.out 0).trans rfl
        have hcz35_1 : w23.cell? ⟨gb350, 1, none⟩ = some (.slice Ao14 t345.length co14) := (blk_cell BK350.out 1).trans rfl
        have hcz35_2 : w23.cell? ⟨gb350, 2, none⟩ = some (.bool t348) := (blk_cell BK350.out 2).trans rfl
        have hcz35_3 : w23.cell? ⟨gb350, 3, none⟩ = some (.string t349) := (blk_cell BK350.out 3).trans rfl
        have hfz35_0 := blk_frozen BK350.out 0
        have hfz35_1 := blk_frozen BK350.out 1
        have hfz35_2 := blk_frozen BK350.out 2
        have hfz35_3 := blk_frozen BK350.out 3
        go_wp2_with (first | ((with_reducible refine gate_callee (f := 17) rfl ?_); refine goesL_ (some 27) rfl rfl Try.func17 (by kernel_rfl) rfl #[.agg #[.string t344, .slice Ao14 t345.length co14, .bool t348, .string t349]] rfl (by (try simp only [List.map_toArray, List.map_cons, List.map_nil]); first | done | rfl | (simp only [List.length_drop, List.length_take]; rfl)) ?_; (with_reducible refine (spec_AddrText.calls kj2 t344 _ _ t345 t348 t349 t360 _ ?side1 ?side2 A24.out).mono ?_); (case side1 => repeat (first | exact (Kd.R_reads' HO347.out).2.2 | (with_reducible refine Kd.C_alloc ?_ _) | (with_reducible refine Kd.C_drewN ?_ _) | (with_reducible refine Kd.C_drew ?_))); (case side2 => exact (Kd.R_reads' HO347.out).2.1); rintro e w36 ⟨rfl, hb⟩; refine ⟨_, rfl, ?_⟩; have n0_ := Aside0.mk (Kd.R_below (by (with_reducible repeat (first | apply Kd.R_alloc | apply Kd.R_drewN | apply Kd.R_drew)); exact HO347.out) hb); have n1_ := Aside0.mk (Kd.R_below (by (with_reducible repeat (first | apply Kd.R_alloc | apply Kd.R_drewN | apply Kd.R_drew)); exact HO354.out) hb); have n2_ := Aside0.mk (blk_below (g := gb350) (o := .cells #[.string t344, .slice Ao14 t345.length co14, .bool t348, .string t349] 27 (0, 0)) (by (with_reducible repeat (first | refine blk_drewN ?_ _ | refine blk_drew ?_ | refine blk_alloc ?_ _)); exact BK350.out) hb); have n3_ := Aside0.mk (blk_below (g := gb357) (o := .cells #[.string t351, .slice Ao19 t352.length co19, .bool t355, .string t356] 27 (0, 0)) (by (with_reducible repeat (first | refine blk_drewN ?_ _ | refine blk_drew ?_ | refine blk_alloc ?_ _)); exact BK357.out) hb); have n4_ := Aside0.mk (below_step (by repeat (first | (with_reducible first | exact HB.out | apply below_alloc | apply pw_below_drewN | apply below_drew1 | refine below_set ?_ GE350.out | refine below_set ?_ GE357.out) | exact HB.out)) hb); clear HO347; clear HO354; clear BK350; clear BK357; clear HB; have HO347 := n0_; have HO354 := n1_; have BK350 := n2_; have BK357 := n3_; have HB := n4_; clear n0_ n1_ n2_ n3_ n4_; (try clear hb); (try clear hb2); (try clear hk); (try clear hi); have hcz37_0 : w36.cell? ⟨gb357, 0, none⟩ = some (.string t351) := (blk_cell BK357.out 0).trans rfl; have hcz37_1 : w36.cell? ⟨gb357, 1, none⟩ = some (.slice Ao19 t352.length co19) := (blk_cell BK357.out 1).trans rfl; have hcz37_2 : w36.cell? ⟨gb357, 2, none⟩ = some (.bool t355) := (blk_cell BK357.out 2).trans rfl; have hcz37_3 : w36.cell? ⟨gb357, 3, none⟩ = some (.string t356) := (blk_cell BK357.out 3).trans rfl; have hfz37_0 := blk_frozen BK357.out 0; have hfz37_1 := blk_frozen BK357.out 1; have hfz37_2 := blk_frozen BK357.out 2; have hfz37_3 := blk_frozen BK357.out 3) | (go_at_call 17; (with_reducible refine (spec_AddrText.calls kj2 t351 _ _ t352 t355 t356 t361 _ ?side1 ?side2 A26.out).mono ?_); (case side1 => repeat (first | exact (Kd.R_reads' HO354.out).2.2 | (with_reducible refine Kd.C_alloc ?_ _) | (with_reducible refine Kd.C_drewN ?_ _) | (with_reducible refine Kd.C_drew ?_))); (case side2 => exact (Kd.R_reads' HO354.out).2.1); rintro e w38 ⟨rfl, hb⟩; have n0_ := Aside0.mk (Kd.R_below (by (with_reducible repeat (first | apply Kd.R_alloc | apply Kd.R_drewN | apply Kd.R_drew)); exact HO347.out) hb); have n1_ := Aside0.mk (Kd.R_below (by (with_reducible repeat (first | apply Kd.R_alloc | apply Kd.R_drewN | apply Kd.R_drew)); exact HO354.out) hb); have n2_ := Aside0.mk (blk_below (g := gb350) (o := .cells #[.string t344, .slice Ao14 t345.length co14, .bool t348, .string t349] 27 (0, 0)) (by (with_reducible repeat (first | refine blk_drewN ?_ _ | refine blk_drew ?_ | refine blk_alloc ?_ _)); exact BK350.out) hb); have n3_ := Aside0.mk (blk_below (g := gb357) (o := .cells #[.string t351, .slice Ao19 t352.length co19, .bool t355, .string t356] 27 (0, 0)) (by (with_reducible repeat (first | refine blk_drewN ?_ _ | refine blk_drew ?_ | refine blk_alloc ?_ _)); exact BK357.out) hb); have n4_ := Aside0.mk (below_step (by repeat (first | (with_reducible first | exact HB.out | apply below_alloc | apply pw_below_drewN | apply below_drew1 | refine below_set ?_ GE350.out | refine below_set ?_ GE357.out) | exact HB.out)) hb); clear HO347; clear HO354; clear BK350; clear BK357; clear HB; have HO347 := n0_; have HO354 := n1_; have BK350 := n2_; have BK357 := n3_; have HB := n4_; clear n0_ n1_ n2_ n3_ n4_; (try clear hb); (try clear hb2); (try clear hk); (try clear hi)))
        go_meet
        case rel => exact ⟨_, ((t359.toList == ([] : List UInt8))), (by first | rfl | (simp; done) | (simp only [i64_w, i32_w]; done) | (simp only [i64_w, i32_w]; rfl) | (simp [*]; done) | (simp [emp_bne, emp_beq]; done)), H', ⟨by have := HJ2.out; first | omega | exact Nat.le_refl _⟩, ⟨by (with_reducible repeat (first | apply Kd.R_alloc | apply Kd.R_drewN | apply Kd.R_drew)); exact Kd.R_mono HO347.out (fun _ hk => hk.2)⟩, ⟨by (with_reducible repeat (first | apply Kd.R_alloc | apply Kd.R_drewN | apply Kd.R_drew)); exact Kd.R_mono HO354.out (fun _ hk => hk.2)⟩, ⟨by (with_reducible repeat (first | refine blk_drewN ?_ _ | refine blk_drew ?_ | refine blk_alloc ?_ _)); exact BK350.out⟩, ⟨by (with_reducible repeat (first | refine blk_drewN ?_ _ | refine blk_drew ?_ | refine blk_alloc ?_ _)); exact BK357.out⟩, ⟨by repeat (first | (with_reducible first | exact HB.out | apply below_alloc | apply pw_below_drewN | apply below_drew1 | refine below_set ?_ GE350.out | refine below_set ?_ GE357.out) | exact HB.out)⟩⟩
      ·rw [if_neg c27] at H
       have c27b0 : (t359.toList == t361.toList) = false := beq_eq_false_iff_ne.mpr c27
       have c27b1 : (t359.toList != t361.toList) = true := bne_iff_ne.mpr c27
       have H' := Aside0.mk H
       clear H
       have hnb39 := NB350_357.out
       have hnc39 := NB357_350.out
       have hcz40_0 : w23.cell? ⟨gb350, 0, none⟩ = some (.string t344) := (blk_cell BK350.out 0).trans rfl
       have hcz40_1 : w23.cell? ⟨gb350, 1, none⟩ = some (.slice Ao14 t345.length co14) := (blk_cell BK350.out 1).trans rfl
       have hcz40_2 : w23.cell? ⟨gb350, 2, none⟩ = some (.bool t348) := (blk_cell BK350.out 2).trans rfl
       have hcz40_3 : w23.cell? ⟨gb350, 3, none⟩ = some (.string t349) := (blk_cell BK350.out 3).trans rfl
       have hfz40_0 := blk_frozen BK350.out 0
       have hfz40_1 := blk_frozen BK350.out 1
       have hfz40_2 := blk_frozen BK350.out 2
       have hfz40_3 := blk_frozen BK350.out 3
       go_wp2_with (first | ((with_reducible refine gate_callee (f := 17) rfl ?_); refine goesL_ (some 27) rfl rfl Try.func17 (by kernel_rfl) rfl #[.agg #[.string t344, .slice Ao14 t345.length co14, .bool t348, .string t349]] rfl (by (try simp only [List.map_toArray, List.map_cons, List.map_nil]); first | done | rfl | (simp only [List.length_drop, List.length_take]; rfl)) ?_; (with_reducible refine (spec_AddrText.calls kj2 t344 _ _ t345 t348 t349 t360 _ ?side1 ?side2 A24.out).mono ?_); (case side1 => repeat (first | exact (Kd.R_reads' HO347.out).2.2 | (with_reducible refine Kd.C_alloc ?_ _) | (with_reducible refine Kd.C_drewN ?_ _) | (with_reducible refine Kd.C_drew ?_))); (case side2 => exact (Kd.R_reads' HO347.out).2.1); rintro e w41 ⟨rfl, hb⟩; refine ⟨_, rfl, ?_⟩; have n0_ := Aside0.mk (Kd.R_below (by (with_reducible repeat (first | apply Kd.R_alloc | apply Kd.R_drewN | apply Kd.R_drew)); exact HO347.out) hb); have n1_ := Aside0.mk (Kd.R_below (by (with_reducible repeat (first | apply Kd.R_alloc | apply Kd.R_drewN | apply Kd.R_drew)); exact HO354.out) hb); have n2_ := Aside0.mk (blk_below (g := gb350) (o := .cells #[.string t344, .slice Ao14 t345.length co14, .bool t348, .string t349] 27 (0, 0)) (by (with_reducible repeat (first | refine blk_drewN ?_ _ | refine blk_drew ?_ | refine blk_alloc ?_ _)); exact BK350.out) hb); have n3_ := Aside0.mk (blk_below (g := gb357) (o := .cells #[.string t351, .slice Ao19 t352.length co19, .bool t355, .string t356] 27 (0, 0)) (by (with_reducible repeat (first | refine blk_drewN ?_ _ | refine blk_drew ?_ | refine blk_alloc ?_ _)); exact BK357.out) hb); have n4_ := Aside0.mk (below_step (by repeat (first | (with_reducible first | exact HB.out | apply below_alloc | apply pw_below_drewN | apply below_drew1 | refine below_set ?_ GE350.out | refine below_set ?_ GE357.out) | exact HB.out)) hb); clear HO347; clear HO354; clear BK350; clear BK357; clear HB; have HO347 := n0_; have HO354 := n1_; have BK350 := n2_; have BK357 := n3_; have HB := n4_; clear n0_ n1_ n2_ n3_ n4_; (try clear hb); (try clear hb2); (try clear hk); (try clear hi); have hcz42_0 : w41.cell? ⟨gb357, 0, none⟩ = some (.string t351) := (blk_cell BK357.out 0).trans rfl; have hcz42_1 : w41.cell? ⟨gb357, 1, none⟩ = some (.slice Ao19 t352.length co19) := (blk_cell BK357.out 1).trans rfl; have hcz42_2 : w41.cell? ⟨gb357, 2, none⟩ = some (.bool t355) := (blk_cell BK357.out 2).trans rfl; have hcz42_3 : w41.cell? ⟨gb357, 3, none⟩ = some (.string t356) := (blk_cell BK357.out 3).trans rfl; have hfz42_0 := blk_frozen BK357.out 0; have hfz42_1 := blk_frozen BK357.out 1; have hfz42_2 := blk_frozen BK357.out 2; have hfz42_3 := blk_frozen BK357.out 3) | (go_at_call 17; (with_reducible refine (spec_AddrText.calls kj2 t351 _ _ t352 t355 t356 t361 _ ?side1 ?side2 A26.out).mono ?_); (case side1 => repeat (first | exact (Kd.R_reads' HO354.out).2.2 | (with_reducible refine Kd.C_alloc ?_ _) | (with_reducible refine Kd.C_drewN ?_ _) | (with_reducible refine Kd.C_drew ?_))); (case side2 => exact (Kd.R_reads' HO354.out).2.1); rintro e w43 ⟨rfl, hb⟩; have n0_ := Aside0.mk (Kd.R_below (by (with_reducible repeat (first | apply Kd.R_alloc | apply Kd.R_drewN | apply Kd.R_drew)); exact HO347.out) hb); have n1_ := Aside0.mk (Kd.R_below (by (with_reducible repeat (first | apply Kd.R_alloc | apply Kd.R_drewN | apply Kd.R_drew)); exact HO354.out) hb); have n2_ := Aside0.mk (blk_below (g := gb350) (o := .cells #[.string t344, .slice Ao14 t345.length co14, .bool t348, .string t349] 27 (0, 0)) (by (with_reducible repeat (first | refine blk_drewN ?_ _ | refine blk_drew ?_ | refine blk_alloc ?_ _)); exact BK350.out) hb); have n3_ := Aside0.mk (blk_below (g := gb357) (o := .cells #[.string t351, .slice Ao19 t352.length co19, .bool t355, .string t356] 27 (0, 0)) (by (with_reducible repeat (first | refine blk_drewN ?_ _ | refine blk_drew ?_ | refine blk_alloc ?_ _)); exact BK357.out) hb); have n4_ := Aside0.mk (below_step (by repeat (first | (with_reducible first | exact HB.out | apply below_alloc | apply pw_below_drewN | apply below_drew1 | refine below_set ?_ GE350.out | refine below_set ?_ GE357.out) | exact HB.out)) hb); clear HO347; clear HO354; clear BK350; clear BK357; clear HB; have HO347 := n0_; have HO354 := n1_; have BK350 := n2_; have BK357 := n3_; have HB := n4_; clear n0_ n1_ n2_ n3_ n4_; (try clear hb); (try clear hb2); (try clear hk); (try clear hi)))
       go_meet
       case rel => exact ⟨_, (true), (by first | rfl | (simp; done) | (simp only [i64_w, i32_w]; done) | (simp only [i64_w, i32_w]; rfl) | (simp [*]; done) | (simp [emp_bne, emp_beq]; done)), H', ⟨by have := HJ2.out; first | omega | exact Nat.le_refl _⟩, ⟨by (with_reducible repeat (first | apply Kd.R_alloc | apply Kd.R_drewN | apply Kd.R_drew)); exact Kd.R_mono HO347.out (fun _ hk => hk.2)⟩, ⟨by (with_reducible repeat (first | apply Kd.R_alloc | apply Kd.R_drewN | apply Kd.R_drew)); exact Kd.R_mono HO354.out (fun _ hk => hk.2)⟩, ⟨by (with_reducible repeat (first | refine blk_drewN ?_ _ | refine blk_drew ?_ | refine blk_alloc ?_ _)); exact BK350.out⟩, ⟨by (with_reducible repeat (first | refine blk_drewN ?_ _ | refine blk_drew ?_ | refine blk_alloc ?_ _)); exact BK357.out⟩, ⟨by repeat (first | (with_reducible first | exact HB.out | apply below_alloc | apply pw_below_drewN | apply below_drew1 | refine below_set ?_ GE350.out | refine below_set ?_ GE357.out) | exact HB.out)⟩⟩
     ·rw [if_neg c25] at H
      have c25b0 : (t358.toList == t360.toList) = false := beq_eq_false_iff_ne.mpr c25
      have c25b1 : (t358.toList != t360.toList) = true := bne_iff_ne.mpr c25
      (first | rw [c25b0] | (simp only [i64_w, i32_w]; rw [c25b0]) | skip)
      have H' := Aside0.mk H
      clear H
      have hnb44 := NB350_357.out
      have hnc44 := NB357_350.out
      have hcz45_0 : w23.cell? ⟨gb350, 0, none⟩ = some (.string t344) := (blk_cell BK350.out 0).trans rfl
      have hcz45_1 : w23.cell? ⟨gb350, 1, none⟩ = some (.slice Ao14 t345.length co14) := (blk_cell BK350.out 1).trans rfl
      have hcz45_2 : w23.cell? ⟨gb350, 2, none⟩ = some (.bool t348) := (blk_cell BK350.out 2).trans rfl
      have hcz45_3 : w23.cell? ⟨gb350, 3, none⟩ = some (.string t349) := (blk_cell BK350.out 3).trans rfl
      have hfz45_0 := blk_frozen BK350.out 0
      have hfz45_1 := blk_frozen BK350.out 1
      have hfz45_2 := blk_frozen BK350.out 2
      have hfz45_3 := blk_frozen BK350.out 3
      go_wp2_with (first | ((with_reducible refine gate_callee (f := 17) rfl ?_); refine goesL_ (some 27) rfl rfl Try.func17 (by kernel_rfl) rfl #[.agg #[.string t344, .slice Ao14 t345.length co14, .bool t348, .string t349]] rfl (by (try simp only [List.map_toArray, List.map_cons, List.map_nil]); first | done | rfl | (simp only [List.length_drop, List.length_take]; rfl)) ?_; (with_reducible refine (spec_AddrText.calls kj2 t344 _ _ t345 t348 t349 t360 _ ?side1 ?side2 A24.out).mono ?_); (case side1 => repeat (first | exact (Kd.R_reads' HO347.out).2.2 | (with_reducible refine Kd.C_alloc ?_ _) | (with_reducible refine Kd.C_drewN ?_ _) | (with_reducible refine Kd.C_drew ?_))); (case side2 => exact (Kd.R_reads' HO347.out).2.1); rintro e w46 ⟨rfl, hb⟩; refine ⟨_, rfl, ?_⟩; have n0_ := Aside0.mk (Kd.R_below (by (with_reducible repeat (first | apply Kd.R_alloc | apply Kd.R_drewN | apply Kd.R_drew)); exact HO347.out) hb); have n1_ := Aside0.mk (Kd.R_below (by (with_reducible repeat (first | apply Kd.R_alloc | apply Kd.R_drewN | apply Kd.R_drew)); exact HO354.out) hb); have n2_ := Aside0.mk (blk_below (g := gb350) (o := .cells #[.string t344, .slice Ao14 t345.length co14, .bool t348, .string t349] 27 (0, 0)) (by (with_reducible repeat (first | refine blk_drewN ?_ _ | refine blk_drew ?_ | refine blk_alloc ?_ _)); exact BK350.out) hb); have n3_ := Aside0.mk (blk_below (g := gb357) (o := .cells #[.string t351, .slice Ao19 t352.length co19, .bool t355, .string t356] 27 (0, 0)) (by (with_reducible repeat (first | refine blk_drewN ?_ _ | refine blk_drew ?_ | refine blk_alloc ?_ _)); exact BK357.out) hb); have n4_ := Aside0.mk (below_step (by repeat (first | (with_reducible first | exact HB.out | apply below_alloc | apply pw_below_drewN | apply below_drew1 | refine below_set ?_ GE350.out | refine below_set ?_ GE357.out) | exact HB.out)) hb); clear HO347; clear HO354; clear BK350; clear BK357; clear HB; have HO347 := n0_; have HO354 := n1_; have BK350 := n2_; have BK357 := n3_; have HB := n4_; clear n0_ n1_ n2_ n3_ n4_; (try clear hb); (try clear hb2); (try clear hk); (try clear hi)))
      go_meet
      case rel => exact ⟨_, (true), (by first | rfl | (simp; done) | (simp only [i64_w, i32_w]; done) | (simp only [i64_w, i32_w]; rfl) | (simp [*]; done) | (simp [emp_bne, emp_beq]; done)), H', ⟨by have := HJ2.out; first | omega | exact Nat.le_refl _⟩, ⟨by (with_reducible repeat (first | apply Kd.R_alloc | apply Kd.R_drewN | apply Kd.R_drew)); exact Kd.R_mono HO347.out (fun _ hk => hk.2)⟩, ⟨by (with_reducible repeat (first | apply Kd.R_alloc | apply Kd.R_drewN | apply Kd.R_drew)); exact Kd.R_mono HO354.out (fun _ hk => hk.2)⟩, ⟨by (with_reducible repeat (first | refine blk_drewN ?_ _ | refine blk_drew ?_ | refine blk_alloc ?_ _)); exact BK350.out⟩, ⟨by (with_reducible repeat (first | refine blk_drewN ?_ _ | refine blk_drew ?_ | refine blk_alloc ?_ _)); exact BK357.out⟩, ⟨by repeat (first | (with_reducible first | exact HB.out | apply below_alloc | apply pw_below_drewN | apply below_drew1 | refine below_set ?_ GE350.out | refine below_set ?_ GE357.out) | exact HB.out)⟩⟩
    case rest =>
     clear HC10
     try clear c1
     try clear c2
     try clear p2
     try clear c3
     try clear c4
     try clear c4b0
     try clear c4b1
     try clear c5
     try clear c7
     try clear c17
     try clear c18
     try clear c20
     try clear c25
     try clear c25b0
     try clear c25b1
     try clear c27
     try clear c27b0
     try clear c27b1
     try clear c28
     try clear c28b0
     try clear c28b1
     try clear c28b2
     try clear c29
     try clear c34
     try clear c39
     try clear c44
     try clear hcz13_0
     try clear hcz13_1
     try clear hcz13_2
     try clear hcz13_3
     try clear hcz18_0
     try clear hcz18_1
     try clear hcz18_2
     try clear hcz18_3
     try clear hcz20_0
     try clear hcz20_1
     try clear hcz20_2
     try clear hcz20_3
     try clear hcz22_0
     try clear hcz22_1
     try clear hcz22_2
     try clear hcz22_3
     try clear hcz30_0
     try clear hcz30_1
     try clear hcz30_2
     try clear hcz30_3
     try clear hcz32_0
     try clear hcz32_1
     try clear hcz32_2
     try clear hcz32_3
     try clear hcz35_0
     try clear hcz35_1
     try clear hcz35_2
     try clear hcz35_3
     try clear hcz37_0
     try clear hcz37_1
     try clear hcz37_2
     try clear hcz37_3
     try clear hcz40_0
     try clear hcz40_1
     try clear hcz40_2
     try clear hcz40_3
     try clear hcz42_0
     try clear hcz42_1
     try clear hcz42_2
     try clear hcz42_3
     try clear hcz45_0
     try clear hcz45_1
     try clear hcz45_2
     try clear hcz45_3
     try clear hfz13_0
     try clear hfz13_1
     try clear hfz13_2
     try clear hfz13_3
     try clear hfz18_0
     try clear hfz18_1
     try clear hfz18_2
     try clear hfz18_3
     try clear hfz20_0
     try clear hfz20_1
     try clear hfz20_2
     try clear hfz20_3
     try clear hfz22_0
     try clear hfz22_1
     try clear hfz22_2
     try clear hfz22_3
     try clear hfz30_0
     try clear hfz30_1
     try clear hfz30_2
     try clear hfz30_3
     try clear hfz32_0
     try clear hfz32_1
     try clear hfz32_2
     try clear hfz32_3
     try clear hfz35_0
     try clear hfz35_1
     try clear hfz35_2
     try clear hfz35_3
     try clear hfz37_0
     try clear hfz37_1
     try clear hfz37_2
     try clear hfz37_3
     try clear hfz40_0
     try clear hfz40_1
     try clear hfz40_2
     try clear hfz40_3
     try clear hfz42_0
     try clear hfz42_1
     try clear hfz42_2
     try clear hfz42_3
     try clear hfz45_0
     try clear hfz45_1
     try clear hfz45_2
     try clear hfz45_3
     try clear p2
     obtain ⟨kq, x42_9, rfl, HA, HJ9, HO_351001, HO_358001, BK350, BK357, HB⟩ := hcut
     cases kq with
     | zero => exact absurd HA.out (by simp [laws_FnAddrOne.j1])
     | succ kj9 =>
      have H := HA.out
      clear HA
      simp only [laws_FnAddrOne.j1] at H
      by_cases c47 : x42_9 = true
      ·subst c47
       have H1 : ((spec_AddrText.f kj9 t344 t345 t348 t349).bind fun t362 => (if t358.toList = t362.toList then ((spec_AddrText.f kj9 t351 t352 t355 t356).bind fun t363 => (some (t359.toList == t363.toList))) else (some false))) = some r := by rw [if_pos rfl] at H; exact H
       clear H
       have H := H1
       clear H1
       replace H := Option.bind_eq_some_iff.mp H
       obtain ⟨t362, A480, H⟩ := H
       replace H : (if t358.toList = t362.toList then ((spec_AddrText.f kj9 t351 t352 t355 t356).bind fun t363 => (some (t359.toList == t363.toList))) else (some false)) = some r := H
       have A48 := Aside0.mk A480
       clear A480
       by_cases c49 : t358.toList = t362.toList
       ·rw [if_pos c49] at H
        have c49b0 : (t358.toList == t362.toList) = true := beq_iff_eq.mpr c49
        have c49b1 : (t358.toList != t362.toList) = false := bne_eq_false_iff_eq.mpr c49
        clear c49
        replace H := Option.bind_eq_some_iff.mp H
        obtain ⟨t363, A500, H⟩ := H
        replace H : (some (t359.toList == t363.toList)) = some r := H
        have A50 := Aside0.mk A500
        clear A500
        obtain rfl := Option.some.inj H
        have hnb51 := NB350_357.out
        have hnc51 := NB357_350.out
        have hcz52_0 : wc.cell? ⟨gb350, 0, none⟩ = some (.string t344) := (blk_cell BK350.out 0).trans rfl
        have hcz52_1 : wc.cell? ⟨gb350, 1, none⟩ = some (.slice Ao14 t345.length co14) := (blk_cell BK350.out 1).trans rfl
        have hcz52_2 : wc.cell? ⟨gb350, 2, none⟩ = some (.bool t348) := (blk_cell BK350.out 2).trans rfl
        have hcz52_3 : wc.cell? ⟨gb350, 3, none⟩ = some (.string t349) := (blk_cell BK350.out 3).trans rfl
        have hfz52_0 := blk_frozen BK350.out 0
        have hfz52_1 := blk_frozen BK350.out 1
        have hfz52_2 := blk_frozen BK350.out 2
        have hfz52_3 := blk_frozen BK350.out 3
        go_wp2_with (first | ((with_reducible refine gate_callee (f := 17) rfl ?_); refine goesL_ (some 45) rfl rfl Try.func17 (by kernel_rfl) rfl #[.agg #[.string t344, .slice Ao14 t345.length co14, .bool t348, .string t349]] rfl (by (try simp only [List.map_toArray, List.map_cons, List.map_nil]); first | done | rfl | (simp only [List.length_drop, List.length_take]; rfl)) ?_; (with_reducible refine (spec_AddrText.calls kj9 t344 _ _ t345 t348 t349 t362 _ ?side1 ?side2 A48.out).mono ?_); (case side1 => repeat (first | exact (Kd.R_reads' HO_351001.out).2.2 | (with_reducible refine Kd.C_alloc ?_ _) | (with_reducible refine Kd.C_drewN ?_ _) | (with_reducible refine Kd.C_drew ?_))); (case side2 => exact (Kd.R_reads' HO_351001.out).2.1); rintro e w53 ⟨rfl, hb⟩; refine ⟨_, rfl, ?_⟩; have n0_ := Aside0.mk (Kd.R_below (by (with_reducible repeat (first | apply Kd.R_alloc | apply Kd.R_drewN | apply Kd.R_drew)); exact HO_351001.out) hb); have n1_ := Aside0.mk (Kd.R_below (by (with_reducible repeat (first | apply Kd.R_alloc | apply Kd.R_drewN | apply Kd.R_drew)); exact HO_358001.out) hb); have n2_ := Aside0.mk (blk_below (g := gb350) (o := .cells #[.string t344, .slice Ao14 t345.length co14, .bool t348, .string t349] 27 (0, 0)) (by (with_reducible repeat (first | refine blk_drewN ?_ _ | refine blk_drew ?_ | refine blk_alloc ?_ _)); exact BK350.out) hb); have n3_ := Aside0.mk (blk_below (g := gb357) (o := .cells #[.string t351, .slice Ao19 t352.length co19, .bool t355, .string t356] 27 (0, 0)) (by (with_reducible repeat (first | refine blk_drewN ?_ _ | refine blk_drew ?_ | refine blk_alloc ?_ _)); exact BK357.out) hb); have n4_ := Aside0.mk (below_step (by repeat (first | (with_reducible first | exact HB.out | apply below_alloc | apply pw_below_drewN | apply below_drew1 | refine below_set ?_ GE350.out | refine below_set ?_ GE357.out) | exact HB.out)) hb); clear HO_351001; clear HO_358001; clear BK350; clear BK357; clear HB; have HO_351001 := n0_; have HO_358001 := n1_; have BK350 := n2_; have BK357 := n3_; have HB := n4_; clear n0_ n1_ n2_ n3_ n4_; (try clear hb); (try clear hb2); (try clear hk); (try clear hi); have hcz54_0 : w53.cell? ⟨gb357, 0, none⟩ = some (.string t351) := (blk_cell BK357.out 0).trans rfl; have hcz54_1 : w53.cell? ⟨gb357, 1, none⟩ = some (.slice Ao19 t352.length co19) := (blk_cell BK357.out 1).trans rfl; have hcz54_2 : w53.cell? ⟨gb357, 2, none⟩ = some (.bool t355) := (blk_cell BK357.out 2).trans rfl; have hcz54_3 : w53.cell? ⟨gb357, 3, none⟩ = some (.string t356) := (blk_cell BK357.out 3).trans rfl; have hfz54_0 := blk_frozen BK357.out 0; have hfz54_1 := blk_frozen BK357.out 1; have hfz54_2 := blk_frozen BK357.out 2; have hfz54_3 := blk_frozen BK357.out 3) | (go_at_call 17; (with_reducible refine (spec_AddrText.calls kj9 t351 _ _ t352 t355 t356 t363 _ ?side1 ?side2 A50.out).mono ?_); (case side1 => repeat (first | exact (Kd.R_reads' HO_358001.out).2.2 | (with_reducible refine Kd.C_alloc ?_ _) | (with_reducible refine Kd.C_drewN ?_ _) | (with_reducible refine Kd.C_drew ?_))); (case side2 => exact (Kd.R_reads' HO_358001.out).2.1); rintro e w55 ⟨rfl, hb⟩; have n0_ := Aside0.mk (Kd.R_below (by (with_reducible repeat (first | apply Kd.R_alloc | apply Kd.R_drewN | apply Kd.R_drew)); exact HO_351001.out) hb); have n1_ := Aside0.mk (Kd.R_below (by (with_reducible repeat (first | apply Kd.R_alloc | apply Kd.R_drewN | apply Kd.R_drew)); exact HO_358001.out) hb); have n2_ := Aside0.mk (blk_below (g := gb350) (o := .cells #[.string t344, .slice Ao14 t345.length co14, .bool t348, .string t349] 27 (0, 0)) (by (with_reducible repeat (first | refine blk_drewN ?_ _ | refine blk_drew ?_ | refine blk_alloc ?_ _)); exact BK350.out) hb); have n3_ := Aside0.mk (blk_below (g := gb357) (o := .cells #[.string t351, .slice Ao19 t352.length co19, .bool t355, .string t356] 27 (0, 0)) (by (with_reducible repeat (first | refine blk_drewN ?_ _ | refine blk_drew ?_ | refine blk_alloc ?_ _)); exact BK357.out) hb); have n4_ := Aside0.mk (below_step (by repeat (first | (with_reducible first | exact HB.out | apply below_alloc | apply pw_below_drewN | apply below_drew1 | refine below_set ?_ GE350.out | refine below_set ?_ GE357.out) | exact HB.out)) hb); clear HO_351001; clear HO_358001; clear BK350; clear BK357; clear HB; have HO_351001 := n0_; have HO_358001 := n1_; have BK350 := n2_; have BK357 := n3_; have HB := n4_; clear n0_ n1_ n2_ n3_ n4_; (try clear hb); (try clear hb2); (try clear hk); (try clear hi)))
        go_ret
        exact ⟨by first | rfl | (simp <;> rfl) | (simp [*] <;> rfl), by repeat (first | (with_reducible first | exact HB.out | apply below_alloc | apply pw_below_drewN | apply below_drew1 | refine below_set ?_ GE350.out | refine below_set ?_ GE357.out) | exact HB.out)⟩
       ·rw [if_neg c49] at H
        have c49b0 : (t358.toList == t362.toList) = false := beq_eq_false_iff_ne.mpr c49
        have c49b1 : (t358.toList != t362.toList) = true := bne_iff_ne.mpr c49
        obtain rfl := Option.some.inj H
        have hnb56 := NB350_357.out
        have hnc56 := NB357_350.out
        have hcz57_0 : wc.cell? ⟨gb350, 0, none⟩ = some (.string t344) := (blk_cell BK350.out 0).trans rfl
        have hcz57_1 : wc.cell? ⟨gb350, 1, none⟩ = some (.slice Ao14 t345.length co14) := (blk_cell BK350.out 1).trans rfl
        have hcz57_2 : wc.cell? ⟨gb350, 2, none⟩ = some (.bool t348) := (blk_cell BK350.out 2).trans rfl
        have hcz57_3 : wc.cell? ⟨gb350, 3, none⟩ = some (.string t349) := (blk_cell BK350.out 3).trans rfl
        have hfz57_0 := blk_frozen BK350.out 0
        have hfz57_1 := blk_frozen BK350.out 1
        have hfz57_2 := blk_frozen BK350.out 2
        have hfz57_3 := blk_frozen BK350.out 3
        go_wp2_with (first | ((with_reducible refine gate_callee (f := 17) rfl ?_); refine goesL_ (some 45) rfl rfl Try.func17 (by kernel_rfl) rfl #[.agg #[.string t344, .slice Ao14 t345.length co14, .bool t348, .string t349]] rfl (by (try simp only [List.map_toArray, List.map_cons, List.map_nil]); first | done | rfl | (simp only [List.length_drop, List.length_take]; rfl)) ?_; (with_reducible refine (spec_AddrText.calls kj9 t344 _ _ t345 t348 t349 t362 _ ?side1 ?side2 A48.out).mono ?_); (case side1 => repeat (first | exact (Kd.R_reads' HO_351001.out).2.2 | (with_reducible refine Kd.C_alloc ?_ _) | (with_reducible refine Kd.C_drewN ?_ _) | (with_reducible refine Kd.C_drew ?_))); (case side2 => exact (Kd.R_reads' HO_351001.out).2.1); rintro e w58 ⟨rfl, hb⟩; refine ⟨_, rfl, ?_⟩; have n0_ := Aside0.mk (Kd.R_below (by (with_reducible repeat (first | apply Kd.R_alloc | apply Kd.R_drewN | apply Kd.R_drew)); exact HO_351001.out) hb); have n1_ := Aside0.mk (Kd.R_below (by (with_reducible repeat (first | apply Kd.R_alloc | apply Kd.R_drewN | apply Kd.R_drew)); exact HO_358001.out) hb); have n2_ := Aside0.mk (blk_below (g := gb350) (o := .cells #[.string t344, .slice Ao14 t345.length co14, .bool t348, .string t349] 27 (0, 0)) (by (with_reducible repeat (first | refine blk_drewN ?_ _ | refine blk_drew ?_ | refine blk_alloc ?_ _)); exact BK350.out) hb); have n3_ := Aside0.mk (blk_below (g := gb357) (o := .cells #[.string t351, .slice Ao19 t352.length co19, .bool t355, .string t356] 27 (0, 0)) (by (with_reducible repeat (first | refine blk_drewN ?_ _ | refine blk_drew ?_ | refine blk_alloc ?_ _)); exact BK357.out) hb); have n4_ := Aside0.mk (below_step (by repeat (first | (with_reducible first | exact HB.out | apply below_alloc | apply pw_below_drewN | apply below_drew1 | refine below_set ?_ GE350.out | refine below_set ?_ GE357.out) | exact HB.out)) hb); clear HO_351001; clear HO_358001; clear BK350; clear BK357; clear HB; have HO_351001 := n0_; have HO_358001 := n1_; have BK350 := n2_; have BK357 := n3_; have HB := n4_; clear n0_ n1_ n2_ n3_ n4_; (try clear hb); (try clear hb2); (try clear hk); (try clear hi)))
        go_ret
        exact ⟨by first | rfl | (simp <;> rfl) | (simp [*] <;> rfl), by repeat (first | (with_reducible first | exact HB.out | apply below_alloc | apply pw_below_drewN | apply below_drew1 | refine below_set ?_ GE350.out | refine below_set ?_ GE357.out) | exact HB.out)⟩
      ·replace c47 := Bool.eq_false_iff.mpr c47
       subst c47
       have H1 : ((laws_lpAddr.f kj9 t344 t345 t348 t349 t351 t352 t355 t356).bind fun t364 => (some ((t358.toList == t359.toList) == t364))) = some r := by rw [if_neg (show ¬ (false = true) by decide)] at H; exact H
       clear H
       have H := H1
       clear H1
       replace H := Option.bind_eq_some_iff.mp H
       obtain ⟨t364, A590, H⟩ := H
       replace H : (some ((t358.toList == t359.toList) == t364)) = some r := H
       have A59 := Aside0.mk A590
       clear A590
       obtain rfl := Option.some.inj H
       have hnb60 := NB350_357.out
       have hnc60 := NB357_350.out
       have hcz61_0 : wc.cell? ⟨gb350, 0, none⟩ = some (.string t344) := (blk_cell BK350.out 0).trans rfl
       have hcz61_1 : wc.cell? ⟨gb350, 1, none⟩ = some (.slice Ao14 t345.length co14) := (blk_cell BK350.out 1).trans rfl
       have hcz61_2 : wc.cell? ⟨gb350, 2, none⟩ = some (.bool t348) := (blk_cell BK350.out 2).trans rfl
       have hcz61_3 : wc.cell? ⟨gb350, 3, none⟩ = some (.string t349) := (blk_cell BK350.out 3).trans rfl
       have hfz61_0 := blk_frozen BK350.out 0
       have hfz61_1 := blk_frozen BK350.out 1
       have hfz61_2 := blk_frozen BK350.out 2
       have hfz61_3 := blk_frozen BK350.out 3
       have hcz62_0 : wc.cell? ⟨gb357, 0, none⟩ = some (.string t351) := (blk_cell BK357.out 0).trans rfl
       have hcz62_1 : wc.cell? ⟨gb357, 1, none⟩ = some (.slice Ao19 t352.length co19) := (blk_cell BK357.out 1).trans rfl
       have hcz62_2 : wc.cell? ⟨gb357, 2, none⟩ = some (.bool t355) := (blk_cell BK357.out 2).trans rfl
       have hcz62_3 : wc.cell? ⟨gb357, 3, none⟩ = some (.string t356) := (blk_cell BK357.out 3).trans rfl
       have hfz62_0 := blk_frozen BK357.out 0
       have hfz62_1 := blk_frozen BK357.out 1
       have hfz62_2 := blk_frozen BK357.out 2
       have hfz62_3 := blk_frozen BK357.out 3
       go_wp2_with (first | ((with_reducible refine gate_callee (f := 21) rfl ?_); refine goesL_ (some 58) rfl rfl Try.func21 (by kernel_rfl) rfl #[.agg #[.string t344, .slice Ao14 t345.length co14, .bool t348, .string t349], .agg #[.string t351, .slice Ao19 t352.length co19, .bool t355, .string t356]] rfl (by (try simp only [List.map_toArray, List.map_cons, List.map_nil]); first | done | rfl | (simp only [List.length_drop, List.length_take]; rfl)) ?_; (with_reducible refine (laws_lpAddr.calls kj9 t344 _ _ t345 t348 t349 t351 _ _ t352 t355 t356 t364 _ ?side1 ?side2 ?side3 ?side4 A59.out).mono ?_); (case side1 => repeat (first | exact (Kd.R_reads' HO_351001.out).2.2 | (with_reducible refine Kd.C_alloc ?_ _) | (with_reducible refine Kd.C_drewN ?_ _) | (with_reducible refine Kd.C_drew ?_))); (case side2 => exact (Kd.R_reads' HO_351001.out).2.1); (case side3 => repeat (first | exact (Kd.R_reads' HO_358001.out).2.2 | (with_reducible refine Kd.C_alloc ?_ _) | (with_reducible refine Kd.C_drewN ?_ _) | (with_reducible refine Kd.C_drew ?_))); (case side4 => exact (Kd.R_reads' HO_358001.out).2.1); rintro e w63 ⟨rfl, hb⟩; refine ⟨_, rfl, ?_⟩; have n0_ := Aside0.mk (Kd.R_below (by (with_reducible repeat (first | apply Kd.R_alloc | apply Kd.R_drewN | apply Kd.R_drew)); exact HO_351001.out) hb); have n1_ := Aside0.mk (Kd.R_below (by (with_reducible repeat (first | apply Kd.R_alloc | apply Kd.R_drewN | apply Kd.R_drew)); exact HO_358001.out) hb); have n2_ := Aside0.mk (blk_below (g := gb350) (o := .cells #[.string t344, .slice Ao14 t345.length co14, .bool t348, .string t349] 27 (0, 0)) (by (with_reducible repeat (first | refine blk_drewN ?_ _ | refine blk_drew ?_ | refine blk_alloc ?_ _)); exact BK350.out) hb); have n3_ := Aside0.mk (blk_below (g := gb357) (o := .cells #[.string t351, .slice Ao19 t352.length co19, .bool t355, .string t356] 27 (0, 0)) (by (with_reducible repeat (first | refine blk_drewN ?_ _ | refine blk_drew ?_ | refine blk_alloc ?_ _)); exact BK357.out) hb); have n4_ := Aside0.mk (below_step (by repeat (first | (with_reducible first | exact HB.out | apply below_alloc | apply pw_below_drewN | apply below_drew1 | refine below_set ?_ GE350.out | refine below_set ?_ GE357.out) | exact HB.out)) hb); clear HO_351001; clear HO_358001; clear BK350; clear BK357; clear HB; have HO_351001 := n0_; have HO_358001 := n1_; have BK350 := n2_; have BK357 := n3_; have HB := n4_; clear n0_ n1_ n2_ n3_ n4_; (try clear hb); (try clear hb2); (try clear hk); (try clear hi)))
       go_ret
       exact ⟨by first | rfl | (simp <;> rfl) | (simp [*] <;> rfl), by repeat (first | (with_reducible first | exact HB.out | apply below_alloc | apply pw_below_drewN | apply below_drew1 | refine below_set ?_ GE350.out | refine below_set ?_ GE357.out) | exact HB.out)⟩

/-- THE ONE PURE STATEMENT of laws_FnAddrOne: yours. -/
def laws_FnAddrOne.Pure : Prop := ∀ (l0 : List Int) (l1 : List Int), l0.length ≤ maxLen → l0.length * 1 ≤ 140737488351232 → (∀ x ∈ l0, (Lit.int .u8 x).wf = true) → l1.length ≤ maxLen → l1.length * 1 ≤ 140737488351232 → (∀ x ∈ l1, (Lit.int .u8 x).wf = true) → ∃ k, laws_FnAddrOne.f k l0 l1 = some true
theorem laws_FnAddrOne.walk (P : laws_FnAddrOne.Pure) (a0 : Option Addr) (len0 cap0 : Nat) (z0 : List Int) (a1 : Option Addr) (len1 cap1 : Nat) (z1 : List Int) (w : World) (w0 : (a0 = none ∧ len0 = 0 ∧ cap0 = 0 ∧ z0 = []) ∨ ∃ x, a0 = some x ∧ len0 ≤ cap0 ∧ cap0 ≤ maxLen ∧ z0.length = cap0 ∧ (∀ i, i < z0.length → w.cell? (x.add i) = some (.int .u8 (z0.getD i 0))) ∧ ∀ n ∈ z0, (Lit.int .u8 n).wf = true) (y0 : len0 * 1 ≤ 140737488351232) (w1 : (a1 = none ∧ len1 = 0 ∧ cap1 = 0 ∧ z1 = []) ∨ ∃ x, a1 = some x ∧ len1 ≤ cap1 ∧ cap1 ≤ maxLen ∧ z1.length = cap1 ∧ (∀ i, i < z1.length → w.cell? (x.add i) = some (.int .u8 (z1.getD i 0))) ∧ ∀ n ∈ z1, (Lit.int .u8 n).wf = true) (y1 : len1 * 1 ≤ 140737488351232) :
  Calls Try.prog 7 #[.slice a0 len0 cap0, .slice a1 len1 cap1] w fun e w' => e = .returned (.bool true) ∧ Below w.heap.size w w' := by
 obtain ⟨l0, rfl, hr0, hm0, hw0, hc0⟩ := ReadsInt.ofRowC w0
 obtain ⟨l1, rfl, hr1, hm1, hw1, hc1⟩ := ReadsInt.ofRowC w1
 obtain ⟨k, h⟩ := P l0 l1 hm0 y0 hw0 hm1 y1 hw1
 refine (laws_FnAddrOne.calls k _ _ l0 _ _ l1 true w (Kd.C_of_reads (d := (0 : Int)) (h1 := fun _ => rfl) hr0) hc0 (Kd.C_of_reads (d := (0 : Int)) (h1 := fun _ => rfl) hr1) hc1 h).mono ?_
 rintro e w' ⟨rfl, hd⟩
 exact ⟨rfl, hd⟩

end Go.Proofs.Ytochmlkladpfgaa.P
