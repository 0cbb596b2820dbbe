-- Written by a program of this session (patch_print.py over the kit's print; given texts in wip/given).
import Derived.Test.YtochmlkladpfgaaPx0
import Derived.Test.YtochmlkladpfgaaPx1
import Derived.Test.YtochmlkladpfgaaPx12
namespace Go.Proofs.Ytochmlkladpfgaa.P
open Go.RowKit Go.Proofs.YtochmlkladpfgaaW.PrintWords Go.Proofs.YtochmlkladpfgaaW.PrintLast Go.Proofs.YtochmlkladpfgaaW.PrintMore
attribute [local go_sem] max2_int min2_int max_two min_two max_three min_three max_four min_four   -- for this text's walks alone
set_option linter.unusedVariables false
set_option linter.unusedSimpArgs false
set_option maxHeartbeats 8000000
set_option maxRecDepth 100000

/-! ### spec_DrawAddrPath: function 19 -/
def spec_DrawAddrPath.f (k : Nat) (l0 : List Int) : Option (ByteArray × List ByteArray × Bool × ByteArray) := (spec_l6Open.f l0).bind fun bt408 => ((spec_l71Struct.f k bt408.1 bt408.2).bind fun bt411 => (some (bt411.1, bt411.2.1, bt411.2.2.1, bt411.2.2.2.1)))
theorem spec_DrawAddrPath.mono : ∀ a0 k, LeO (spec_DrawAddrPath.f k a0) (spec_DrawAddrPath.f (k + 1) a0) := by
 intro a0 k
 unfold spec_DrawAddrPath.f
 repeat' first
   | (with_reducible exact spec_l71Struct.mono _ _ _)
   | (with_reducible exact LeO.refl _)
   | (with_reducible exact LeO.none _)
   | (with_reducible refine LeO.ite ?_ ?_)
   | (with_reducible refine LeO.bind ?_ (fun _ => ?_))
   | exact spec_l71Struct.mono _ _ _
   | exact LeO.none _
   | refine LeO.ite ?_ ?_
   | refine LeO.bind ?_ (fun _ => ?_)
theorem spec_DrawAddrPath.calls (k : Nat) (A0 : Option Addr) (c0 : Nat) (l0 : List Int) (r1 : ByteArray) (r2 : List ByteArray) (r3 : Bool) (r4 : ByteArray) (w : World) (hr0 : Kd.C (Kd.int .u8) w A0 l0.length l0) (hc0 : l0.length ≤ c0) (h : spec_DrawAddrPath.f k l0 = some (r1, r2, r3, r4)) :
  Calls Try.prog 19 #[.slice A0 l0.length c0] w fun e w' => ∃ v1_ : Value, e = .returned (.agg #[.string r1, v1_, .bool r3, .string r4]) ∧ Kd.R Kd.string 9 w' w.heap.size (fun _ => True) v1_ r2 ∧ Below w.heap.size w w' := by
 have hu27 := Try.underlying27
 have HR0 := Aside0.mk hr0
 have HC0 := Aside0.mk hc0
 clear hr0 hc0
 have HB := Aside0.mk (Below.refl w.heap.size w)
 have H : ((spec_l6Open.f l0).bind fun bt408 => ((spec_l71Struct.f k bt408.1 bt408.2).bind fun bt411 => (some (bt411.1, bt411.2.1, bt411.2.2.1, bt411.2.2.2.1)))) = some (r1, r2, r3, r4) := h
 clear h
 replace H := Option.bind_eq_some_iff.mp H
 obtain ⟨⟨t408, t409⟩, A20, H⟩ := H
 replace H : ((spec_l71Struct.f k t408 t409).bind fun bt411 => (some (bt411.1, bt411.2.1, bt411.2.2.1, bt411.2.2.2.1))) = some (r1, r2, r3, r4) := H
 have A2 := Aside0.mk A20
 clear A20
 replace H := Option.bind_eq_some_iff.mp H
 obtain ⟨⟨t411, t412, t415, t416, t417⟩, A30, H⟩ := H
 replace H : (some (t411, t412, t415, t416)) = some (r1, r2, r3, r4) := H
 have A3 := Aside0.mk A30
 clear A30
 simp only [Option.some.injEq, Prod.mk.injEq] at H
 obtain ⟨rfl, rfl, rfl, rfl⟩ := H
 go_enter Try.func19, Try.ntmps19
 go_wp2_with (first | ((with_reducible refine gate_dst (N := 2) rfl ?_); refine box_event ?hg (N := 2) ?hd (cs := #[.string (⟨#[]⟩ : ByteArray), .slice none 0 0, .bool false, .string (⟨#[]⟩ : ByteArray)]) (t := 27) ?hr ?_; (case hd => rfl); (case hg => rfl); (case hr => first | (go_simp; done) | (go_simp; rfl)); intro gb407 hg w4 hbox hb; have n0_ := Aside0.mk (below_step (by repeat (first | (with_reducible first | exact HB.out | apply below_alloc | apply pw_below_drewN | apply below_drew1) | exact HB.out)) hb); have n1_ := Aside0.mk (hbox); have n2_ := Aside0.mk ((by rw [hg]; exact (below_size (by repeat (first | (with_reducible first | exact HB.out | apply below_alloc | apply pw_below_drewN | apply below_drew1) | exact HB.out))) : w.heap.size ≤ gb407)); have n3_ := n2_; clear HB; have HB := n0_; have BK407 := n1_; have GW407 := n2_; have GE407 := n3_; clear n0_ n1_ n2_ n3_; clear hb hbox hg) | ((with_reducible refine gate_callee (f := 38) rfl ?_); refine goesL_ (some 4) rfl rfl Try.func38 (by kernel_rfl) rfl #[.slice A0 l0.length c0] rfl (by (try simp only [List.map_toArray, List.map_cons, List.map_nil]); first | done | rfl | (simp only [List.length_drop, List.length_take]; rfl)) ?_; (with_reducible refine (spec_l6Open.calls _ _ l0 t408 t409 w _ ?side1 ?side2 ?side3 A2.out).mono ?_); (case side1 => repeat (first | (with_reducible first | exact HB.out | apply below_alloc | apply pw_below_drewN | apply below_drew1 | refine below_set ?_ GE407.out) | exact HB.out)); (case side2 => exact HR0.out); (case side3 => exact HC0.out); rintro e w5 ⟨g410, rfl, hi, hb, hb2⟩; refine ⟨_, rfl, ?_⟩; have n0_ := Aside0.mk (blk_below (g := gb407) (o := .cells #[.string (⟨#[]⟩ : ByteArray), .slice none 0 0, .bool false, .string (⟨#[]⟩ : ByteArray)] 27 (0, 0)) (by (with_reducible repeat (first | refine blk_drewN ?_ _ | refine blk_drew ?_ | refine blk_alloc ?_ _)); exact BK407.out) hb2); have n1_ := Aside0.mk (hb); have n2_ := Aside0.mk (hi); have n3_ := Aside0.mk (IsS57.ne_blk hi (blk_below (g := gb407) (o := .cells #[.string (⟨#[]⟩ : ByteArray), .slice none 0 0, .bool false, .string (⟨#[]⟩ : ByteArray)] 27 (0, 0)) (by (with_reducible repeat (first | refine blk_drewN ?_ _ | refine blk_drew ?_ | refine blk_alloc ?_ _)); exact BK407.out) hb2) (by decide)); have n4_ := Aside0.mk (Ne.symm (IsS57.ne_blk hi (blk_below (g := gb407) (o := .cells #[.string (⟨#[]⟩ : ByteArray), .slice none 0 0, .bool false, .string (⟨#[]⟩ : ByteArray)] 27 (0, 0)) (by (with_reducible repeat (first | refine blk_drewN ?_ _ | refine blk_drew ?_ | refine blk_alloc ?_ _)); exact BK407.out) hb2) (by decide))); clear BK407; clear HB; have BK407 := n0_; have HB := n1_; have HI410 := n2_; have NB410_407 := n3_; have NB407_410 := n4_; clear n0_ n1_ n2_ n3_ n4_; (try clear hb); (try clear hb2); (try clear hk); (try clear hi)) | ((with_reducible refine gate_callee (f := 37) rfl ?_); refine goesL_ (some 5) rfl rfl Try.func37 (by kernel_rfl) rfl #[.pointer (some ⟨g410, 0, none⟩)] rfl (by (try simp only [List.map_toArray, List.map_cons, List.map_nil]); first | done | rfl | (simp only [List.length_drop, List.length_take]; rfl)) ?_; (with_reducible refine (spec_l71Struct.calls k g410 t408 t409 t411 t412 t415 t416 t417 w _ ?side1 ?side2 A3.out).mono ?_); (case side1 => repeat (first | (with_reducible first | exact HI410.out | apply IsS57.alloc | apply IsS57.drewN | apply IsS57.drew | apply IsS57.set_1 | refine IsS57.far ?_ NB410_407.out _) | exact HI410.out)); (case side2 => repeat (first | (with_reducible first | exact HB.out | apply below_alloc | apply pw_below_drewN | apply below_drew1 | refine below_set ?_ (IsS57.ge HI410.out) | refine below_set ?_ GE407.out) | exact HB.out)); rintro e w6 ⟨v413, rfl, ho0, hi, hb, hk⟩; refine ⟨_, rfl, ?_⟩; have n0_ := Aside0.mk (KeepBut.blk hk (g' := gb407) (o := .cells #[.string (⟨#[]⟩ : ByteArray), .slice none 0 0, .bool false, .string (⟨#[]⟩ : ByteArray)] 27 (0, 0)) (by (with_reducible repeat (first | refine blk_drewN ?_ _ | refine blk_drew ?_ | refine blk_alloc ?_ _)); exact BK407.out) NB407_410.out (by simp)); have n1_ := Aside0.mk (Kd.R_lower ho0 (below_size (by repeat (first | (with_reducible first | exact HB.out | apply below_alloc | apply pw_below_drewN | apply below_drew1 | refine below_set ?_ (IsS57.ge HI410.out) | refine below_set ?_ GE407.out) | exact HB.out)))); have n2_ := Aside0.mk (hb); have n3_ := Aside0.mk (hi); clear BK407; clear HB; clear HI410; have BK407 := n0_; have HO414 := n1_; have HB := n2_; have HI410 := n3_; clear n0_ n1_ n2_ n3_; (try clear hb); (try clear hb2); (try clear hk); (try clear hi); (try clear ho0); have hnb7 := NB407_410.out; have hnc7 := NB410_407.out; have hcz8_0 : w6.cell? ⟨gb407, 0, none⟩ = some (.string (⟨#[]⟩ : ByteArray)) := (blk_cell BK407.out 0).trans rfl; have hcz8_1 : w6.cell? ⟨gb407, 1, none⟩ = some (.slice none 0 0) := (blk_cell BK407.out 1).trans rfl; have hcz8_2 : w6.cell? ⟨gb407, 2, none⟩ = some (.bool false) := (blk_cell BK407.out 2).trans rfl; have hcz8_3 : w6.cell? ⟨gb407, 3, none⟩ = some (.string (⟨#[]⟩ : ByteArray)) := (blk_cell BK407.out 3).trans rfl; have hfz8_0 := blk_frozen BK407.out 0; have hfz8_1 := blk_frozen BK407.out 1; have hfz8_2 := blk_frozen BK407.out 2; have hfz8_3 := blk_frozen BK407.out 3; obtain ⟨Ao9, co9, eo9⟩ := Kd.R_slice HO414.out; subst eo9))
 refine bodyPost_ret (results_cell_row rfl _ _ gb407 27 #[.string t411, .slice Ao9 t412.length co9, .bool t415, .string t416] (0, 0) _ rfl (by (with_reducible repeat (first | refine blk_drewN ?_ _ | refine blk_drew ?_ | refine blk_alloc ?_ _)); refine blk_put (cs := #[.string t411, .slice Ao9 t412.length co9, .bool t415, .string (⟨#[]⟩ : ByteArray)]) ?_ 3 _ rfl; (with_reducible repeat (first | refine blk_drewN ?_ _ | refine blk_drew ?_ | refine blk_alloc ?_ _)); refine blk_put (cs := #[.string t411, .slice Ao9 t412.length co9, .bool false, .string (⟨#[]⟩ : ByteArray)]) ?_ 2 _ rfl; (with_reducible repeat (first | refine blk_drewN ?_ _ | refine blk_drew ?_ | refine blk_alloc ?_ _)); refine blk_put (cs := #[.string t411, .slice none 0 0, .bool false, .string (⟨#[]⟩ : ByteArray)]) ?_ 1 _ rfl; (with_reducible repeat (first | refine blk_drewN ?_ _ | refine blk_drew ?_ | refine blk_alloc ?_ _)); refine blk_put (cs := #[.string (⟨#[]⟩ : ByteArray), .slice none 0 0, .bool false, .string (⟨#[]⟩ : ByteArray)]) ?_ 0 _ rfl; (with_reducible repeat (first | refine blk_drewN ?_ _ | refine blk_drew ?_ | refine blk_alloc ?_ _)); exact BK407.out) Try.underlying27 rfl (by kernel_rfl)) rfl ?_
 exact ⟨_, by first | rfl | (simp <;> rfl) | (simp [*] <;> rfl), by (with_reducible repeat (first | apply Kd.R_alloc | apply Kd.R_drewN | apply Kd.R_drew)); exact Kd.R_mono (Kd.R_far (p := ⟨gb407, 3, none⟩) (Kd.R_far (p := ⟨gb407, 2, none⟩) (Kd.R_far (p := ⟨gb407, 1, none⟩) (Kd.R_far (p := ⟨gb407, 0, none⟩) (Kd.R_types HO414.out BK407.out (by decide)) (fun _ hk => hk.2) (.string t411)) (fun _ hk => hk.2) (.slice Ao9 t412.length co9)) (fun _ hk => hk.2) (.bool t415)) (fun _ hk => hk.2) (.string t416)) (fun _ hk => trivial), by repeat (first | (with_reducible first | exact HB.out | apply below_alloc | apply pw_below_drewN | apply below_drew1 | refine below_set ?_ (IsS57.ge HI410.out) | refine below_set ?_ GE407.out) | exact HB.out)⟩

end Go.Proofs.Ytochmlkladpfgaa.P
