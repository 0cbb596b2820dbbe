-- Written by a program of this session (patch_print.py over the kit's print; given texts in wip/given).
import Derived.Test.YtochmlkladpfgaaPx0
import Derived.Test.YtochmlkladpfgaaPx3
import Derived.Test.YtochmlkladpfgaaPx4
import Derived.Test.YtochmlkladpfgaaPx9
namespace Go.Proofs.Ytochmlkladpfgaa.P
open Go.RowKit Go.Proofs.YtochmlkladpfgaaW.PrintWords Go.Proofs.YtochmlkladpfgaaW.PrintLast Go.Proofs.YtochmlkladpfgaaW.PrintMore
attribute [local go_sem] max2_int min2_int max_two min_two max_three min_three max_four min_four   -- for this text's walks alone
set_option linter.unusedVariables false
set_option linter.unusedSimpArgs false
set_option maxHeartbeats 8000000
set_option maxRecDepth 100000

/-! ### spec_l1Way: function 61 -/
def spec_l1Way.l0 : Nat → ByteArray → Bool → List ByteArray → List ByteArray → Int → ByteArray → List ByteArray → Bool → ByteArray → Option (ByteArray × List ByteArray × Bool × ByteArray × Bool)
 | 0, _, _, _, _, _, _, _, _, _ => none
 | k + 1, x6, x7, x8, x9, x10, x196000, x196001, x196002, x196003 => if x10 < (x9.length : Int) then (if 0 ≤ x10 then ((spec_EscNorm.f k (rdOf ByteArray.empty x9 x10)).bind fun bt210 => (if bt210.2 = true then (if x8.length < 8796093022208 then (spec_l1Way.l0 k x6 x7 (x8 ++ [bt210.1]) x9 (wrap64 (x10 + 1)) x196000 x196001 x196002 x196003) else (none)) else (some ((⟨#[]⟩ : ByteArray), ([] : List ByteArray), false, (⟨#[]⟩ : ByteArray), false)))) else (none)) else ((spec_EscNorm.f k x6).bind fun bt215 => ((spec_PathClean.f k x8).bind fun t217 => (if bt215.2 = true then ((spec_AddrOk.f k x196000 t217 x7 bt215.1).bind fun t221 => (if t221 = true then (some (x196000, t217, x7, bt215.1, true)) else (some ((⟨#[]⟩ : ByteArray), ([] : List ByteArray), false, (⟨#[]⟩ : ByteArray), false)))) else (some ((⟨#[]⟩ : ByteArray), ([] : List ByteArray), false, (⟨#[]⟩ : ByteArray), false)))))
def spec_l1Way.f (k : Nat) (a0_0 : ByteArray) (l0_1 : List ByteArray) (a0_2 : Bool) (a0_3 : ByteArray) (a1 : ByteArray) : Option (ByteArray × List ByteArray × Bool × ByteArray × Bool) := (spec_l1Cut.f k a1 63).bind fun bt197 => ((some (([] : List ByteArray) : List ByteArray)).bind fun y200 => (if y200.length + l0_1.length < 8796093022208 then ((spec_l1Split.f k bt197.1 47).bind fun t206 => (spec_l1Way.l0 k bt197.2.1 bt197.2.2 (y200 ++ l0_1) t206 0 a0_0 l0_1 a0_2 a0_3)) else (none)))
theorem spec_l1Way.mono_l : ∀ k, (∀ y0 y1 y2 y3 y4 y5 y6 y7 y8, LeO (spec_l1Way.l0 k y0 y1 y2 y3 y4 y5 y6 y7 y8) (spec_l1Way.l0 (k + 1) y0 y1 y2 y3 y4 y5 y6 y7 y8))
 | 0 => fun _ _ _ _ _ _ _ _ _ r h => by simp [spec_l1Way.l0] at h
 | k + 1 => by
  have ih0 := spec_l1Way.mono_l k
  ·intro y0 y1 y2 y3 y4 y5 y6 y7 y8
   unfold spec_l1Way.l0
   repeat' first
   | (with_reducible exact ih0 _ _ _ _ _ _ _ _ _)
   | (with_reducible exact spec_AddrOk.mono _ _ _ _ _)
   | (with_reducible exact spec_EscNorm.mono _ _)
   | (with_reducible exact spec_PathClean.mono _ _)
   | (with_reducible exact spec_l1Cut.mono _ _ _)
   | (with_reducible exact spec_l1Split.mono _ _ _)
   | (with_reducible exact LeO.refl _)
   | (with_reducible exact LeO.none _)
   | (with_reducible refine LeO.ite ?_ ?_)
   | (with_reducible refine LeO.bind ?_ (fun _ => ?_))
   | exact ih0 _ _ _ _ _ _ _ _ _
   | exact spec_AddrOk.mono _ _ _ _ _
   | exact spec_EscNorm.mono _ _
   | exact spec_PathClean.mono _ _
   | exact spec_l1Cut.mono _ _ _
   | exact spec_l1Split.mono _ _ _
   | exact LeO.none _
   | refine LeO.ite ?_ ?_
   | refine LeO.bind ?_ (fun _ => ?_)
theorem spec_l1Way.mono : ∀ a0 a1 a2 a3 a4 k, LeO (spec_l1Way.f k a0 a1 a2 a3 a4) (spec_l1Way.f (k + 1) a0 a1 a2 a3 a4) := by
 intro a0 a1 a2 a3 a4 k
 have ih0 := spec_l1Way.mono_l k
 unfold spec_l1Way.f
 repeat' first
   | (with_reducible exact ih0 _ _ _ _ _ _ _ _ _)
   | (with_reducible exact spec_AddrOk.mono _ _ _ _ _)
   | (with_reducible exact spec_EscNorm.mono _ _)
   | (with_reducible exact spec_PathClean.mono _ _)
   | (with_reducible exact spec_l1Cut.mono _ _ _)
   | (with_reducible exact spec_l1Split.mono _ _ _)
   | (with_reducible exact LeO.refl _)
   | (with_reducible exact LeO.none _)
   | (with_reducible refine LeO.ite ?_ ?_)
   | (with_reducible refine LeO.bind ?_ (fun _ => ?_))
   | exact ih0 _ _ _ _ _ _ _ _ _
   | exact spec_AddrOk.mono _ _ _ _ _
   | exact spec_EscNorm.mono _ _
   | exact spec_PathClean.mono _ _
   | exact spec_l1Cut.mono _ _ _
   | exact spec_l1Split.mono _ _ _
   | exact LeO.none _
   | refine LeO.ite ?_ ?_
   | refine LeO.bind ?_ (fun _ => ?_)
def spec_l1Way.T12 : Bool × List (List Nat × List Nat) := (true, [([], []), ([0], [0]), ([], []), ([2], [2]), ([], []), ([], []), ([1, 3, 4, 5], [1, 3, 4, 5]), ([], []), ([7, 6, 3, 0, 1, 2, 3, 4, 5, 6, 7], [6, 7])])
def spec_l1Way.B12 : List Nat := [0, 1, 0, 4, 0, 0, 63, 0, 255]
theorem spec_l1Way.tab12 : rtab .any (opsOf Try.f61 12) = spec_l1Way.T12 := by kernel_rfl
theorem spec_l1Way.bits12 : waitsOk spec_l1Way.T12.2 spec_l1Way.B12 = true := by kernel_rfl
theorem spec_l1Way.calls (k : Nat) (a0_0 : ByteArray) (A0_1 : Option Addr) (c0_1 : Nat) (l0_1 : List ByteArray) (a0_2 : Bool) (a0_3 : ByteArray) (a1 : ByteArray) (r1 : ByteArray) (r2 : List ByteArray) (r3 : Bool) (r4 : ByteArray) (r5 : Bool) (w : World) (hr0_1 : Kd.C Kd.string w A0_1 l0_1.length l0_1) (hc0_1 : l0_1.length ≤ c0_1) (h : spec_l1Way.f k a0_0 l0_1 a0_2 a0_3 a1 = some (r1, r2, r3, r4, r5)) :
  Calls Try.prog 61 #[.agg #[.string a0_0, .slice A0_1 l0_1.length c0_1, .bool a0_2, .string a0_3], .string a1] w fun e w' => ∃ v1_ : Value, e = .returned (.tuple #[.agg #[.string r1, v1_, .bool r3, .string r4], .bool r5]) ∧ Kd.R Kd.string 9 w' w.heap.size (fun _ => True) v1_ r2 ∧ Below w.heap.size w w' := by
 have hu27 := Try.underlying27
 have HR0_1 := Aside0.mk hr0_1
 have HC0_1 := Aside0.mk hc0_1
 clear hr0_1 hc0_1
 have HB := Aside0.mk (Below.refl w.heap.size w)
 have H : ((spec_l1Cut.f k a1 63).bind fun bt197 => ((some (([] : List ByteArray) : List ByteArray)).bind fun y200 => (if y200.length + l0_1.length < 8796093022208 then ((spec_l1Split.f k bt197.1 47).bind fun t206 => (spec_l1Way.l0 k bt197.2.1 bt197.2.2 (y200 ++ l0_1) t206 0 a0_0 l0_1 a0_2 a0_3)) else (none)))) = some (r1, r2, r3, r4, r5) := h
 clear h
 replace H := Option.bind_eq_some_iff.mp H
 obtain ⟨⟨t197, t198, t199⟩, A30, H⟩ := H
 replace H : ((some (([] : List ByteArray) : List ByteArray)).bind fun y200 => (if y200.length + l0_1.length < 8796093022208 then ((spec_l1Split.f k t197 47).bind fun t206 => (spec_l1Way.l0 k t198 t199 (y200 ++ l0_1) t206 0 a0_0 l0_1 a0_2 a0_3)) else (none))) = some (r1, r2, r3, r4, r5) := H
 have A3 := Aside0.mk A30
 clear A30
 obtain ⟨y200, hy200⟩ : ∃ y_ : List ByteArray, y_ = (([] : List ByteArray)) := ⟨_, rfl⟩
 replace H : (if y200.length + l0_1.length < 8796093022208 then ((spec_l1Split.f k t197 47).bind fun t206 => (spec_l1Way.l0 k t198 t199 (y200 ++ l0_1) t206 0 a0_0 l0_1 a0_2 a0_3)) else (none)) = some (r1, r2, r3, r4, r5) := by first | (rw [hy200]; with_reducible exact H) | (have H2_ := (Option.bind_some _ _).symm.trans H; rw [hy200]; with_reducible exact H2_) | (have H2_ := (Option.bind_some _ _).symm.trans H; with_reducible exact H2_) | with_reducible exact H | (rw [hy200]; exact H) | exact H
 have Ny200 := Aside0.mk hy200
 clear hy200
 by_cases c4 : y200.length + l0_1.length < 8796093022208
 ·rw [if_pos c4] at H
  have LMc4 := Aside0.mk c4
  clear c4
  obtain ⟨y203, hy203⟩ : ∃ y_ : List ByteArray, y_ = (y200 ++ l0_1) := ⟨_, rfl⟩
  replace H : ((spec_l1Split.f k t197 47).bind fun t206 => (spec_l1Way.l0 k t198 t199 y203 t206 0 a0_0 l0_1 a0_2 a0_3)) = some (r1, r2, r3, r4, r5) := by first | (rw [hy203]; with_reducible exact H) | (have H2_ := (Option.bind_some _ _).symm.trans H; rw [hy203]; with_reducible exact H2_) | (have H2_ := (Option.bind_some _ _).symm.trans H; with_reducible exact H2_) | with_reducible exact H | (rw [hy203]; exact H) | exact H
  have Ny203 := Aside0.mk hy203
  clear hy203
  replace H := Option.bind_eq_some_iff.mp H
  obtain ⟨t206, A50, H⟩ := H
  replace H : (spec_l1Way.l0 k t198 t199 y203 t206 0 a0_0 l0_1 a0_2 a0_3) = some (r1, r2, r3, r4, r5) := H
  have A5 := Aside0.mk A50
  clear A50
  have H' := Aside0.mk H
  clear H
  go_enter Try.func61, Try.ntmps61
  go_wp2_with (first | ((with_reducible refine gate_dst (N := 2) rfl ?_); refine box_event ?hg (N := 2) ?hd (cs := #[.string a0_0, .slice A0_1 l0_1.length c0_1, .bool a0_2, .string a0_3]) (t := 27) ?hr ?_; (case hd => rfl); (case hg => rfl); (case hr => first | (go_simp; done) | (go_simp; rfl)); intro gb195 hg w6 hbox hb; have n0_ := Aside0.mk (below_step (by repeat (first | (with_reducible first | exact HB.out | apply below_alloc | apply pw_below_drewN | apply below_drew1) | exact HB.out)) hb); have n1_ := Aside0.mk (hbox); have n2_ := Aside0.mk ((by rw [hg]; exact (below_size (by repeat (first | (with_reducible first | exact HB.out | apply below_alloc | apply pw_below_drewN | apply below_drew1) | exact HB.out))) : w.heap.size ≤ gb195)); have n3_ := n2_; clear HB; have HB := n0_; have BK195 := n1_; have GW195 := n2_; have GE195 := n3_; clear n0_ n1_ n2_ n3_; clear hb hbox hg) | ((with_reducible refine gate_dst (N := 4) rfl ?_); refine box_event ?hg (N := 4) ?hd (cs := #[.string (⟨#[]⟩ : ByteArray), .slice none 0 0, .bool false, .string (⟨#[]⟩ : ByteArray)]) (t := 27) ?hr ?_; (case hd => rfl); (case hg => rfl); (case hr => first | (go_simp; done) | (go_simp; rfl)); intro gb196 hg w7 hbox hb; have n0_ := Aside0.mk (blk_below (g := gb195) (o := .cells #[.string a0_0, .slice A0_1 l0_1.length c0_1, .bool a0_2, .string a0_3] 27 (0, 0)) (by (with_reducible repeat (first | refine blk_drewN ?_ _ | refine blk_drew ?_ | refine blk_alloc ?_ _)); exact BK195.out) hb); have n1_ := Aside0.mk (below_step (by repeat (first | (with_reducible first | exact HB.out | apply below_alloc | apply pw_below_drewN | apply below_drew1 | refine below_set ?_ GE195.out) | exact HB.out)) hb); have n2_ := Aside0.mk (hbox); have n3_ := Aside0.mk ((by rw [hg]; exact (below_size (by repeat (first | (with_reducible first | exact HB.out | apply below_alloc | apply pw_below_drewN | apply below_drew1 | refine below_set ?_ GE195.out) | exact HB.out))) : w.heap.size ≤ gb196)); have n4_ := n3_; have n5_ := Aside0.mk ((by rw [hg]; exact Nat.ne_of_lt (blk_lt (g := gb195) (o := .cells #[.string a0_0, .slice A0_1 l0_1.length c0_1, .bool a0_2, .string a0_3] 27 (0, 0)) (by (with_reducible repeat (first | refine blk_drewN ?_ _ | refine blk_drew ?_ | refine blk_alloc ?_ _)); exact BK195.out)) : gb195 ≠ gb196)); have n6_ := Aside0.mk ((by rw [hg]; exact Nat.ne_of_gt (blk_lt (g := gb195) (o := .cells #[.string a0_0, .slice A0_1 l0_1.length c0_1, .bool a0_2, .string a0_3] 27 (0, 0)) (by (with_reducible repeat (first | refine blk_drewN ?_ _ | refine blk_drew ?_ | refine blk_alloc ?_ _)); exact BK195.out)) : gb196 ≠ gb195)); clear BK195; clear HB; have BK195 := n0_; have HB := n1_; have BK196 := n2_; have GW196 := n3_; have GE196 := n4_; have NB195_196 := n5_; have NB196_195 := n6_; clear n0_ n1_ n2_ n3_ n4_ n5_ n6_; clear hb hbox hg) | ((with_reducible refine gate_callee (f := 56) rfl ?_); refine goesL_ (some 18) rfl rfl Try.func56 (by kernel_rfl) rfl #[.string a1, .int .u8 63] rfl (by (try simp only [List.map_toArray, List.map_cons, List.map_nil]); first | done | rfl | (simp only [List.length_drop, List.length_take]; rfl)) ?_; (with_reducible refine (spec_l1Cut.calls k a1 63 t197 t198 t199 _ A3.out).mono ?_); rintro e w' ⟨rfl, ⟨nd, rfl⟩⟩; refine ⟨_, rfl, ?_⟩) | ((with_reducible refine gate_dst (N := 22) rfl ?_); refine Kd.R_lit Kd.string _ 9 ?hg (N := 22) ?hd (xs := ([] : List ByteArray)) (inner := []) (ok := fun _ => True) (okp := fun _ => True) ?hr ?hp (fun _ hk => hk) trivial (Below.refl _ _) (Nat.le_refl _) (by simp) ?_; (case hd => rfl); (case hg => rfl); (case hr => first | (go_simp; done) | (go_simp; rfl)); (case hp => exact (Reps.none _ _)); intro v201 w8 ho9 hb hg_ hnew_; clear hg_ hnew_; (first | rw [← Ny200.out] at ho9 | (simp only [Int.reduceToNat] at ho9; rw [← Ny200.out] at ho9)); have n0_ := Aside0.mk (Kd.R_lower ho9 (below_size (by repeat (first | (with_reducible first | exact HB.out | apply below_alloc | apply pw_below_drewN | apply below_drew1 | refine below_set ?_ GE195.out | refine below_set ?_ GE196.out) | exact HB.out)))); have n1_ := Aside0.mk (blk_below (g := gb195) (o := .cells #[.string a0_0, .slice A0_1 l0_1.length c0_1, .bool a0_2, .string a0_3] 27 (0, 0)) (by (with_reducible repeat (first | refine blk_drewN ?_ _ | refine blk_drew ?_ | refine blk_alloc ?_ _)); exact BK195.out) hb); have n2_ := Aside0.mk (blk_below (g := gb196) (o := .cells #[.string (⟨#[]⟩ : ByteArray), .slice none 0 0, .bool false, .string (⟨#[]⟩ : ByteArray)] 27 (0, 0)) (by (with_reducible repeat (first | refine blk_drewN ?_ _ | refine blk_drew ?_ | refine blk_alloc ?_ _)); exact BK196.out) hb); have n3_ := Aside0.mk (below_step (by repeat (first | (with_reducible first | exact HB.out | apply below_alloc | apply pw_below_drewN | apply below_drew1 | refine below_set ?_ GE195.out | refine below_set ?_ GE196.out) | exact HB.out)) hb); clear BK195; clear BK196; clear HB; have HO202 := n0_; have BK195 := n1_; have BK196 := n2_; have HB := n3_; clear n0_ n1_ n2_ n3_; clear hb ho9; have hnb10 := NB195_196.out; have hnc10 := NB196_195.out; have hcz11_0 : w8.cell? ⟨gb195, 0, none⟩ = some (.string a0_0) := (blk_cell BK195.out 0).trans rfl; have hcz11_1 : w8.cell? ⟨gb195, 1, none⟩ = some (.slice A0_1 l0_1.length c0_1) := (blk_cell BK195.out 1).trans rfl; have hcz11_2 : w8.cell? ⟨gb195, 2, none⟩ = some (.bool a0_2) := (blk_cell BK195.out 2).trans rfl; have hcz11_3 : w8.cell? ⟨gb195, 3, none⟩ = some (.string a0_3) := (blk_cell BK195.out 3).trans rfl; have hfz11_0 := blk_frozen BK195.out 0; have hfz11_1 := blk_frozen BK195.out 1; have hfz11_2 := blk_frozen BK195.out 2; have hfz11_3 := blk_frozen BK195.out 3) | ((with_reducible refine gate_builtin (b := .append) (xs := #[.tmp 22, .tmp 24]) rfl ?_); at_builtin; refine Kd.R_append_rows Kd.string (w0 := w) w.heap.size rfl (.tmp 22) (.tmp 24) 22 9 (.string ⟨#[]⟩) 16 rfl Try.underlying22 info9 rfl (by decide) (by omega) v201 y200 l0_1 _ _ _ (fun _ => True) (fun _ => False) rfl rfl ?aO ?aR (fun _ _ h => h) (fun _ h => h.elim) ?aF ?aB ?aS ?aL ?_; (case aR => repeat (first | exact (Kd.C_below HR0_1.out HB.out) | (with_reducible refine Kd.C_alloc ?_ _) | (with_reducible refine Kd.C_drewN ?_ _) | (with_reducible refine Kd.C_drew ?_))); (case aB => exact (by repeat (first | (with_reducible first | exact HB.out | apply below_alloc | apply pw_below_drewN | apply below_drew1 | refine below_set ?_ GE195.out | refine below_set ?_ GE196.out) | exact HB.out))); (case aF => exact (fun _ _ => trivial)); (case aO => exact (by (with_reducible repeat (first | apply Kd.R_alloc | apply Kd.R_drewN | apply Kd.R_drew)); exact HO202.out)); (case aS => exact (below_size (by repeat (first | (with_reducible first | exact HB.out | apply below_alloc | apply pw_below_drewN | apply below_drew1 | refine below_set ?_ GE195.out | refine below_set ?_ GE196.out) | exact HB.out)))); (case aL => have := LMc4.out; omega); intro v204 w12 ho hb hg hat; rw [← Ny203.out] at ho; have n0_ := Aside0.mk (blk_grown (g := gb195) (o := .cells #[.string a0_0, .slice A0_1 l0_1.length c0_1, .bool a0_2, .string a0_3] 27 (0, 0)) (by (with_reducible repeat (first | refine blk_drewN ?_ _ | refine blk_drew ?_ | refine blk_alloc ?_ _)); exact BK195.out) hg (Kd.R_ne HO202.out BK195.out (by decide))); have n1_ := Aside0.mk (blk_grown (g := gb196) (o := .cells #[.string (⟨#[]⟩ : ByteArray), .slice none 0 0, .bool false, .string (⟨#[]⟩ : ByteArray)] 27 (0, 0)) (by (with_reducible repeat (first | refine blk_drewN ?_ _ | refine blk_drew ?_ | refine blk_alloc ?_ _)); exact BK196.out) hg (Kd.R_ne HO202.out BK196.out (by decide))); have n2_ := Aside0.mk (hb); have n3_ := Aside0.mk (ho); clear BK195; clear BK196; clear HB; clear HO202; have BK195 := n0_; have BK196 := n1_; have HB := n2_; have HO205 := n3_; clear n0_ n1_ n2_ n3_; clear ho hb hg hat) | ((with_reducible refine gate_callee (f := 65) rfl ?_); refine goesL_ (some 27) rfl rfl Try.func65 (by kernel_rfl) rfl #[.string t197, .int .u8 47] rfl (by (try simp only [List.map_toArray, List.map_cons, List.map_nil]); first | done | rfl | (simp only [List.length_drop, List.length_take]; rfl)) ?_; (with_reducible refine (spec_l1Split.calls k t197 47 t206 _ A5.out).mono ?_); rintro e w13 ⟨v207, rfl, ho0, hb⟩; refine ⟨_, rfl, ?_⟩; have n0_ := Aside0.mk (Kd.R_elder' (by (with_reducible repeat (first | apply Kd.R_alloc | apply Kd.R_drewN | apply Kd.R_drew)); exact HO205.out) (Kd.R_base ho0) hb); have n1_ := Aside0.mk (Kd.R_lower (Kd.R_new' ho0 (Kd.R_lt (by (with_reducible repeat (first | apply Kd.R_alloc | apply Kd.R_drewN | apply Kd.R_drew)); exact HO205.out))) (below_size (by repeat (first | (with_reducible first | exact HB.out | apply below_alloc | apply pw_below_drewN | apply below_drew1 | refine below_set ?_ GE195.out | refine below_set ?_ GE196.out) | exact HB.out)))); have n2_ := Aside0.mk (blk_below (g := gb195) (o := .cells #[.string a0_0, .slice A0_1 l0_1.length c0_1, .bool a0_2, .string a0_3] 27 (0, 0)) (by (with_reducible repeat (first | refine blk_drewN ?_ _ | refine blk_drew ?_ | refine blk_alloc ?_ _)); exact BK195.out) hb); have n3_ := Aside0.mk (blk_below (g := gb196) (o := .cells #[.string (⟨#[]⟩ : ByteArray), .slice none 0 0, .bool false, .string (⟨#[]⟩ : ByteArray)] 27 (0, 0)) (by (with_reducible repeat (first | refine blk_drewN ?_ _ | refine blk_drew ?_ | refine blk_alloc ?_ _)); exact BK196.out) hb); have n4_ := Aside0.mk (below_step (by repeat (first | (with_reducible first | exact HB.out | apply below_alloc | apply pw_below_drewN | apply below_drew1 | refine below_set ?_ GE195.out | refine below_set ?_ GE196.out) | exact HB.out)) hb); clear HO205; clear BK195; clear BK196; clear HB; have HO205 := n0_; have HO208 := n1_; have BK195 := n2_; have BK196 := n3_; have HB := n4_; clear n0_ n1_ n2_ n3_ n4_; (try clear hb); (try clear hb2); (try clear hk); (try clear hi); (try clear ho0)))
  go_loopg [8, 10] k (fun kq v8 v10 w' => ∃ (x8_1 : List ByteArray) (x10_1 : Int) (x197000_1 : ByteArray) (x197002_1 : Bool) (x197003_1 : ByteArray), v10 = .int .i64 x10_1 ∧ Aside0 (spec_l1Way.l0 kq t198 t199 x8_1 t206 x10_1 a0_0 l0_1 a0_2 a0_3 = some (r1, r2, r3, r4, r5)) ∧ Aside0 (kq ≤ k) ∧ Aside0 (Kd.R Kd.string 9 w' w.heap.size (fun k_ => some k_ ≠ (v207 : Value).ownBlock) v8 x8_1) ∧ Aside0 (Kd.R Kd.string 9 w' w.heap.size (fun k_ => some k_ ≠ (v8 : Value).ownBlock) v207 t206) ∧ Aside0 (w'.heap[gb195]? = some (.cells #[.string a0_0, (.slice A0_1 l0_1.length c0_1), .bool a0_2, .string a0_3] 27 (0, 0))) ∧ Aside0 (w'.heap[gb196]? = some (.cells #[.string x197000_1, (.slice none 0 0), .bool x197002_1, .string x197003_1] 27 (0, 0))) ∧ Aside0 (Below w.heap.size w w'))
  case atStart => exact ⟨(y203), (0), ((⟨#[]⟩ : ByteArray)), (false), ((⟨#[]⟩ : ByteArray)), (by first | rfl | (simp; done) | (simp only [i64_w, i32_w]; done) | (simp only [i64_w, i32_w]; rfl) | (simp [*]; done) | (simp [emp_bne, emp_beq]; done)), H', ⟨Nat.le_refl _⟩, ⟨by (with_reducible repeat (first | apply Kd.R_alloc | apply Kd.R_drewN | apply Kd.R_drew)); exact Kd.R_mono HO205.out (fun _ hk => hk.2)⟩, ⟨by (with_reducible repeat (first | apply Kd.R_alloc | apply Kd.R_drewN | apply Kd.R_drew)); exact Kd.R_mono HO208.out (fun _ hk => hk.2)⟩, ⟨by (with_reducible repeat (first | refine blk_drewN ?_ _ | refine blk_drew ?_ | refine blk_alloc ?_ _)); exact BK195.out⟩, ⟨by (with_reducible repeat (first | refine blk_drewN ?_ _ | refine blk_drew ?_ | refine blk_alloc ?_ _)); exact BK196.out⟩, ⟨by repeat (first | (with_reducible first | exact HB.out | apply below_alloc | apply pw_below_drewN | apply below_drew1 | refine below_set ?_ GE195.out | refine below_set ?_ GE196.out) | exact HB.out)⟩⟩
  case round =>
   clear H'
   try clear c1
   try clear p2
   try clear c4
   try clear c5
   try clear c6
   try clear c10
   try clear hcz11_0
   try clear hcz11_1
   try clear hcz11_2
   try clear hcz11_3
   try clear hfz11_0
   try clear hfz11_1
   try clear hfz11_2
   try clear hfz11_3
   obtain ⟨x8_1, x10_1, x197000_1, x197002_1, x197003_1, rfl, HA, HK1, HO_8, HO_9, BK195, BK196, HB⟩ := hrel
   cases gk with
   | zero => exact absurd HA.out (by simp [spec_l1Way.l0])
   | succ k1 =>
    have H := HA.out
    clear HA
    simp only [spec_l1Way.l0] at H
    by_cases c14 : x10_1 < (t206.length : Int)
    ·rw [if_pos c14] at H
     have c14b0 : decide (x10_1 < (t206.length : Int)) = true := decide_eq_true c14
     clear c14
     by_cases c15 : 0 ≤ x10_1
     ·rw [if_pos c15] at H
      have c15b0 : decide (0 ≤ x10_1) = true := decide_eq_true c15
      clear c15
      replace H := Option.bind_eq_some_iff.mp H
      obtain ⟨⟨t210, t211⟩, A160, H⟩ := H
      replace H : (if t211 = true then (if x8_1.length < 8796093022208 then (spec_l1Way.l0 k1 t198 t199 (x8_1 ++ [t210]) t206 (wrap64 (x10_1 + 1)) a0_0 l0_1 a0_2 a0_3) else (none)) else (some ((⟨#[]⟩ : ByteArray), ([] : List ByteArray), false, (⟨#[]⟩ : ByteArray), false))) = some (r1, r2, r3, r4, r5) := H
      have A16 := Aside0.mk A160
      clear A160
      by_cases c17 : t211 = true
      ·subst c17
       have H1 : (if x8_1.length < 8796093022208 then (spec_l1Way.l0 k1 t198 t199 (x8_1 ++ [t210]) t206 (wrap64 (x10_1 + 1)) a0_0 l0_1 a0_2 a0_3) else (none)) = some (r1, r2, r3, r4, r5) := by rw [if_pos rfl] at H; exact H
       clear H
       have H := H1
       clear H1
       by_cases c18 : x8_1.length < 8796093022208
       ·rw [if_pos c18] at H
        have LMc18 := Aside0.mk c18
        clear c18
        obtain ⟨y212, hy212⟩ : ∃ y_ : List ByteArray, y_ = (x8_1 ++ [t210]) := ⟨_, rfl⟩
        replace H : (spec_l1Way.l0 k1 t198 t199 y212 t206 (wrap64 (x10_1 + 1)) a0_0 l0_1 a0_2 a0_3) = some (r1, r2, r3, r4, r5) := by first | (rw [hy212]; with_reducible exact H) | (have H2_ := (Option.bind_some _ _).symm.trans H; rw [hy212]; with_reducible exact H2_) | (have H2_ := (Option.bind_some _ _).symm.trans H; with_reducible exact H2_) | with_reducible exact H | (rw [hy212]; exact H) | exact H
        have Ny212 := Aside0.mk hy212
        clear hy212
        have H' := Aside0.mk H
        clear H
        obtain ⟨Ao19, co19, eo19⟩ := Kd.R_slice HO_9.out
        subst eo19
        have p209 : 0 ≤ (x10_1 : Int) := of_decide_eq_true (by first | (with_reducible assumption) | assumption)
        have q209 : x10_1 < (t206.length : Int) := of_decide_eq_true (by first | (with_reducible assumption) | assumption)
        obtain ⟨ad209, e209, hx209_0⟩ := Kd.at_string (Kd.R_reads' HO_9.out).2.2 x10_1 p209 q209
        cases e209
        replace p209 := eq_true p209
        replace q209 := eq_true q209
        go_wp2_with (first | ((with_reducible refine gate_callee (f := 42) rfl ?_); refine goesL_ (some 39) rfl rfl Try.func42 (by kernel_rfl) rfl #[.string (rdOf ByteArray.empty t206 x10_1)] rfl (by (try simp only [List.map_toArray, List.map_cons, List.map_nil]); first | done | rfl | (simp only [List.length_drop, List.length_take]; rfl)) ?_; (with_reducible refine (spec_EscNorm.calls k1 (rdOf ByteArray.empty t206 x10_1) t210 true _ A16.out).mono ?_); rintro e w20 ⟨rfl, hb⟩; refine ⟨_, rfl, ?_⟩; have n0_ := Aside0.mk (Kd.R_below (by (with_reducible repeat (first | apply Kd.R_alloc | apply Kd.R_drewN | apply Kd.R_drew)); exact HO_8.out) hb); have n1_ := Aside0.mk (Kd.R_below (by (with_reducible repeat (first | apply Kd.R_alloc | apply Kd.R_drewN | apply Kd.R_drew)); exact HO_9.out) hb); have n2_ := Aside0.mk (blk_below (g := gb195) (o := .cells #[.string a0_0, .slice A0_1 l0_1.length c0_1, .bool a0_2, .string a0_3] 27 (0, 0)) (by (with_reducible repeat (first | refine blk_drewN ?_ _ | refine blk_drew ?_ | refine blk_alloc ?_ _)); exact BK195.out) hb); have n3_ := Aside0.mk (blk_below (g := gb196) (o := .cells #[.string x197000_1, .slice none 0 0, .bool x197002_1, .string x197003_1] 27 (0, 0)) (by (with_reducible repeat (first | refine blk_drewN ?_ _ | refine blk_drew ?_ | refine blk_alloc ?_ _)); exact BK196.out) hb); have n4_ := Aside0.mk (below_step (by repeat (first | (with_reducible first | exact HB.out | apply below_alloc | apply pw_below_drewN | apply below_drew1 | refine below_set ?_ GE195.out | refine below_set ?_ GE196.out) | exact HB.out)) hb); clear HO_8; clear HO_9; clear BK195; clear BK196; clear HB; have HO_8 := n0_; have HO_9 := n1_; have BK195 := n2_; have BK196 := n3_; have HB := n4_; clear n0_ n1_ n2_ n3_ n4_; (try clear hb); (try clear hb2); (try clear hk); (try clear hi)) | ((with_reducible refine gate_builtin (b := .append) (xs := #[.tmp 45, .tmp 47]) rfl ?_); at_builtin; refine Kd.R_append Kd.string (w0 := w) w.heap.size rfl (.tmp 45) (.tmp 47) 22 9 (.string ⟨#[]⟩) 16 rfl Try.underlying22 info9 rfl (by decide) (by omega) u8 x8_1 t210 [.string t210] (fun k_ => some k_ ≠ (.slice (some ad209) t206.length co19 : Value).ownBlock) (fun _ => False) rfl rfl ?aP (fun _ hk => hk.elim) ?aF ?aO ?aB ?aS ?aL ?_; (case aP => exact rfl); (case aB => exact (by repeat (first | (with_reducible first | exact HB.out | apply below_alloc | apply pw_below_drewN | apply below_drew1 | refine below_set ?_ GE195.out | refine below_set ?_ GE196.out) | exact HB.out))); (case aF => exact (fun k_ hk => Kd.fresh' (Kd.R_lt (by (with_reducible repeat (first | apply Kd.R_alloc | apply Kd.R_drewN | apply Kd.R_drew)); exact HO_9.out)) k_ hk)); (case aO => exact (by (with_reducible repeat (first | apply Kd.R_alloc | apply Kd.R_drewN | apply Kd.R_drew)); exact HO_8.out)); (case aS => exact (below_size (by repeat (first | (with_reducible first | exact HB.out | apply below_alloc | apply pw_below_drewN | apply below_drew1 | refine below_set ?_ GE195.out | refine below_set ?_ GE196.out) | exact HB.out)))); (case aL => have := LMc18.out; omega); intro v213 w21 ho hb hg hat; rw [← Ny212.out] at ho; have n0_ := Aside0.mk (Kd.R_after (ok := (fun _ => True)) (by (with_reducible repeat (first | apply Kd.R_alloc | apply Kd.R_drewN | apply Kd.R_drew)); exact Kd.R_mono HO_9.out (fun _ hk => ⟨trivial, hk⟩)) hg hat); have n1_ := Aside0.mk (blk_grown (g := gb195) (o := .cells #[.string a0_0, .slice A0_1 l0_1.length c0_1, .bool a0_2, .string a0_3] 27 (0, 0)) (by (with_reducible repeat (first | refine blk_drewN ?_ _ | refine blk_drew ?_ | refine blk_alloc ?_ _)); exact BK195.out) hg (Kd.R_ne HO_8.out BK195.out (by decide))); have n2_ := Aside0.mk (blk_grown (g := gb196) (o := .cells #[.string x197000_1, .slice none 0 0, .bool x197002_1, .string x197003_1] 27 (0, 0)) (by (with_reducible repeat (first | refine blk_drewN ?_ _ | refine blk_drew ?_ | refine blk_alloc ?_ _)); exact BK196.out) hg (Kd.R_ne HO_8.out BK196.out (by decide))); have n3_ := Aside0.mk (hb); have n4_ := Aside0.mk (ho); clear HO_9; clear BK195; clear BK196; clear HB; clear HO_8; have HO_9 := n0_; have BK195 := n1_; have BK196 := n2_; have HB := n3_; have HO214 := n4_; clear n0_ n1_ n2_ n3_ n4_; clear ho hb hg hat))
        go_roundg k1
        case measure => have := HK1.out; omega
        case rel => exact ⟨(y212), (wrap64 (x10_1 + 1)), (x197000_1), (x197002_1), (x197003_1), (by first | rfl | (simp; done) | (simp only [i64_w, i32_w]; done) | (simp only [i64_w, i32_w]; rfl) | (simp [*]; done) | (simp [emp_bne, emp_beq]; done)), H', ⟨by have := HK1.out; omega⟩, ⟨by (with_reducible repeat (first | apply Kd.R_alloc | apply Kd.R_drewN | apply Kd.R_drew)); exact HO214.out⟩, ⟨by (with_reducible repeat (first | apply Kd.R_alloc | apply Kd.R_drewN | apply Kd.R_drew)); exact Kd.R_mono HO_9.out (fun _ hk => hk.2)⟩, ⟨by (with_reducible repeat (first | refine blk_drewN ?_ _ | refine blk_drew ?_ | refine blk_alloc ?_ _)); exact BK195.out⟩, ⟨by (with_reducible repeat (first | refine blk_drewN ?_ _ | refine blk_drew ?_ | refine blk_alloc ?_ _)); exact BK196.out⟩, ⟨by repeat (first | (with_reducible first | exact HB.out | apply below_alloc | apply pw_below_drewN | apply below_drew1 | refine below_set ?_ GE195.out | refine below_set ?_ GE196.out) | exact HB.out)⟩⟩
       ·rw [if_neg c18] at H
        exact absurd H (by simp)
      ·replace c17 := Bool.eq_false_iff.mpr c17
       subst c17
       have H1 : (some ((⟨#[]⟩ : ByteArray), ([] : List ByteArray), false, (⟨#[]⟩ : ByteArray), false)) = some (r1, r2, r3, r4, r5) := by rw [if_neg (show ¬ (false = true) by decide)] at H; exact H
       clear H
       have H := H1
       clear H1
       simp only [Option.some.injEq, Prod.mk.injEq] at H
       obtain ⟨rfl, rfl, rfl, rfl, rfl⟩ := H
       obtain ⟨Ao22, co22, eo22⟩ := Kd.R_slice HO_9.out
       subst eo22
       have p209 : 0 ≤ (x10_1 : Int) := of_decide_eq_true (by first | (with_reducible assumption) | assumption)
       have q209 : x10_1 < (t206.length : Int) := of_decide_eq_true (by first | (with_reducible assumption) | assumption)
       obtain ⟨ad209, e209, hx209_0⟩ := Kd.at_string (Kd.R_reads' HO_9.out).2.2 x10_1 p209 q209
       cases e209
       replace p209 := eq_true p209
       replace q209 := eq_true q209
       go_wp2_with (first | ((with_reducible refine gate_callee (f := 42) rfl ?_); refine goesL_ (some 39) rfl rfl Try.func42 (by kernel_rfl) rfl #[.string (rdOf ByteArray.empty t206 x10_1)] rfl (by (try simp only [List.map_toArray, List.map_cons, List.map_nil]); first | done | rfl | (simp only [List.length_drop, List.length_take]; rfl)) ?_; (with_reducible refine (spec_EscNorm.calls k1 (rdOf ByteArray.empty t206 x10_1) t210 false _ A16.out).mono ?_); rintro e w23 ⟨rfl, hb⟩; refine ⟨_, rfl, ?_⟩; have n0_ := Aside0.mk (Kd.R_below (by (with_reducible repeat (first | apply Kd.R_alloc | apply Kd.R_drewN | apply Kd.R_drew)); exact HO_8.out) hb); have n1_ := Aside0.mk (Kd.R_below (by (with_reducible repeat (first | apply Kd.R_alloc | apply Kd.R_drewN | apply Kd.R_drew)); exact HO_9.out) hb); have n2_ := Aside0.mk (blk_below (g := gb195) (o := .cells #[.string a0_0, .slice A0_1 l0_1.length c0_1, .bool a0_2, .string a0_3] 27 (0, 0)) (by (with_reducible repeat (first | refine blk_drewN ?_ _ | refine blk_drew ?_ | refine blk_alloc ?_ _)); exact BK195.out) hb); have n3_ := Aside0.mk (blk_below (g := gb196) (o := .cells #[.string x197000_1, .slice none 0 0, .bool x197002_1, .string x197003_1] 27 (0, 0)) (by (with_reducible repeat (first | refine blk_drewN ?_ _ | refine blk_drew ?_ | refine blk_alloc ?_ _)); exact BK196.out) hb); have n4_ := Aside0.mk (below_step (by repeat (first | (with_reducible first | exact HB.out | apply below_alloc | apply pw_below_drewN | apply below_drew1 | refine below_set ?_ GE195.out | refine below_set ?_ GE196.out) | exact HB.out)) hb); clear HO_8; clear HO_9; clear BK195; clear BK196; clear HB; have HO_8 := n0_; have HO_9 := n1_; have BK195 := n2_; have BK196 := n3_; have HB := n4_; clear n0_ n1_ n2_ n3_ n4_; (try clear hb); (try clear hb2); (try clear hk); (try clear hi); have hnb24 := NB196_195.out; have hnc24 := NB195_196.out; have hcz25_0 : w23.cell? ⟨gb196, 0, none⟩ = some (.string x197000_1) := (blk_cell BK196.out 0).trans rfl; have hcz25_1 : w23.cell? ⟨gb196, 1, none⟩ = some (.slice none 0 0) := (blk_cell BK196.out 1).trans rfl; have hcz25_2 : w23.cell? ⟨gb196, 2, none⟩ = some (.bool x197002_1) := (blk_cell BK196.out 2).trans rfl; have hcz25_3 : w23.cell? ⟨gb196, 3, none⟩ = some (.string x197003_1) := (blk_cell BK196.out 3).trans rfl; have hfz25_0 := blk_frozen BK196.out 0; have hfz25_1 := blk_frozen BK196.out 1; have hfz25_2 := blk_frozen BK196.out 2; have hfz25_3 := blk_frozen BK196.out 3))
       refine bodyPost_ret (results_ct rfl _ _ gb196 27 #[.string (⟨#[]⟩ : ByteArray), .slice none 0 0, .bool false, .string (⟨#[]⟩ : ByteArray)] (0, 0) _ rfl (by (with_reducible repeat (first | refine blk_drewN ?_ _ | refine blk_drew ?_ | refine blk_alloc ?_ _)); refine blk_put (cs := #[.string (⟨#[]⟩ : ByteArray), .slice none 0 0, .bool false, .string x197003_1]) ?_ 3 _ rfl; (with_reducible repeat (first | refine blk_drewN ?_ _ | refine blk_drew ?_ | refine blk_alloc ?_ _)); refine blk_put (cs := #[.string (⟨#[]⟩ : ByteArray), .slice none 0 0, .bool x197002_1, .string x197003_1]) ?_ 2 _ rfl; (with_reducible repeat (first | refine blk_drewN ?_ _ | refine blk_drew ?_ | refine blk_alloc ?_ _)); refine blk_put (cs := #[.string (⟨#[]⟩ : ByteArray), .slice none 0 0, .bool x197002_1, .string x197003_1]) ?_ 1 _ rfl; (with_reducible repeat (first | refine blk_drewN ?_ _ | refine blk_drew ?_ | refine blk_alloc ?_ _)); refine blk_put (cs := #[.string x197000_1, .slice none 0 0, .bool x197002_1, .string x197003_1]) ?_ 0 _ rfl; (with_reducible repeat (first | refine blk_drewN ?_ _ | refine blk_drew ?_ | refine blk_alloc ?_ _)); exact BK196.out) Try.underlying27 rfl (by kernel_rfl)) rfl ?_
       exact ⟨_, by first | rfl | (simp <;> rfl) | (simp [*] <;> rfl), by first | exact Kd.R_nil _ _ _ _ _ | exact Kd.N_nil _ _ _ _ _ | exact Kd.V_nil _ _ _ _ _ | exact Kd.Q_nil _ _ _ _ _ | exact Kd.S_nil _ _ _ _ _, by repeat (first | (with_reducible first | exact HB.out | apply below_alloc | apply pw_below_drewN | apply below_drew1 | refine below_set ?_ GE195.out | refine below_set ?_ GE196.out) | exact HB.out)⟩
     ·rw [if_neg c15] at H
      exact absurd H (by simp)
    ·rw [if_neg c14] at H
     have c14b0 : decide (x10_1 < (t206.length : Int)) = false := decide_eq_false c14
     clear c14
     replace H := Option.bind_eq_some_iff.mp H
     obtain ⟨⟨t215, t216⟩, A260, H⟩ := H
     replace H : ((spec_PathClean.f k1 x8_1).bind fun t217 => (if t216 = true then ((spec_AddrOk.f k1 a0_0 t217 t199 t215).bind fun t221 => (if t221 = true then (some (a0_0, t217, t199, t215, true)) else (some ((⟨#[]⟩ : ByteArray), ([] : List ByteArray), false, (⟨#[]⟩ : ByteArray), false)))) else (some ((⟨#[]⟩ : ByteArray), ([] : List ByteArray), false, (⟨#[]⟩ : ByteArray), false)))) = some (r1, r2, r3, r4, r5) := H
     have A26 := Aside0.mk A260
     clear A260
     replace H := Option.bind_eq_some_iff.mp H
     obtain ⟨t217, A270, H⟩ := H
     replace H : (if t216 = true then ((spec_AddrOk.f k1 a0_0 t217 t199 t215).bind fun t221 => (if t221 = true then (some (a0_0, t217, t199, t215, true)) else (some ((⟨#[]⟩ : ByteArray), ([] : List ByteArray), false, (⟨#[]⟩ : ByteArray), false)))) else (some ((⟨#[]⟩ : ByteArray), ([] : List ByteArray), false, (⟨#[]⟩ : ByteArray), false))) = some (r1, r2, r3, r4, r5) := H
     have A27 := Aside0.mk A270
     clear A270
     by_cases c28 : t216 = true
     ·subst c28
      have H1 : ((spec_AddrOk.f k1 a0_0 t217 t199 t215).bind fun t221 => (if t221 = true then (some (a0_0, t217, t199, t215, true)) else (some ((⟨#[]⟩ : ByteArray), ([] : List ByteArray), false, (⟨#[]⟩ : ByteArray), false)))) = some (r1, r2, r3, r4, r5) := by rw [if_pos rfl] at H; exact H
      clear H
      have H := H1
      clear H1
      replace H := Option.bind_eq_some_iff.mp H
      obtain ⟨t221, A290, H⟩ := H
      replace H : (if t221 = true then (some (a0_0, t217, t199, t215, true)) else (some ((⟨#[]⟩ : ByteArray), ([] : List ByteArray), false, (⟨#[]⟩ : ByteArray), false))) = some (r1, r2, r3, r4, r5) := H
      have A29 := Aside0.mk A290
      clear A290
      by_cases c30 : t221 = true
      ·subst c30
       have H1 : (some (a0_0, t217, t199, t215, true)) = some (r1, r2, r3, r4, r5) := by rw [if_pos rfl] at H; exact H
       clear H
       have H := H1
       clear H1
       simp only [Option.some.injEq, Prod.mk.injEq] at H
       obtain ⟨rfl, rfl, rfl, rfl, rfl⟩ := H
       obtain ⟨Ao31, co31, eo31⟩ := Kd.R_slice HO_9.out
       subst eo31
       try go_wp2_with (first | ((with_reducible refine gate_callee (f := 42) rfl ?_); refine goesL_ (some 51) rfl rfl Try.func42 (by kernel_rfl) rfl #[.string t198] rfl (by (try simp only [List.map_toArray, List.map_cons, List.map_nil]); first | done | rfl | (simp only [List.length_drop, List.length_take]; rfl)) ?_; (with_reducible refine (spec_EscNorm.calls k1 t198 t215 true _ A26.out).mono ?_); rintro e w32 ⟨rfl, hb⟩; refine ⟨_, rfl, ?_⟩; have n0_ := Aside0.mk (Kd.R_below (by (with_reducible repeat (first | apply Kd.R_alloc | apply Kd.R_drewN | apply Kd.R_drew)); exact HO_8.out) hb); have n1_ := Aside0.mk (Kd.R_below (by (with_reducible repeat (first | apply Kd.R_alloc | apply Kd.R_drewN | apply Kd.R_drew)); exact HO_9.out) hb); have n2_ := Aside0.mk (blk_below (g := gb195) (o := .cells #[.string a0_0, .slice A0_1 l0_1.length c0_1, .bool a0_2, .string a0_3] 27 (0, 0)) (by (with_reducible repeat (first | refine blk_drewN ?_ _ | refine blk_drew ?_ | refine blk_alloc ?_ _)); exact BK195.out) hb); have n3_ := Aside0.mk (blk_below (g := gb196) (o := .cells #[.string x197000_1, .slice none 0 0, .bool x197002_1, .string x197003_1] 27 (0, 0)) (by (with_reducible repeat (first | refine blk_drewN ?_ _ | refine blk_drew ?_ | refine blk_alloc ?_ _)); exact BK196.out) hb); have n4_ := Aside0.mk (below_step (by repeat (first | (with_reducible first | exact HB.out | apply below_alloc | apply pw_below_drewN | apply below_drew1 | refine below_set ?_ GE195.out | refine below_set ?_ GE196.out) | exact HB.out)) hb); clear HO_8; clear HO_9; clear BK195; clear BK196; clear HB; have HO_8 := n0_; have HO_9 := n1_; have BK195 := n2_; have BK196 := n3_; have HB := n4_; clear n0_ n1_ n2_ n3_ n4_; (try clear hb); (try clear hb2); (try clear hk); (try clear hi); obtain ⟨Ao33, co33, eo33⟩ := Kd.R_slice HO_8.out; subst eo33))
       have n0_ := Aside0.mk (Kd.R_drew HO_8.out)
       have n1_ := Aside0.mk (Kd.R_drew HO_9.out)
       have n2_ := Aside0.mk (blk_drew BK195.out)
       have n3_ := Aside0.mk (blk_drew BK196.out)
       have n4_ := Aside0.mk (below_drew1 HB.out)
       clear HO_8
       clear HO_9
       clear BK195
       clear BK196
       clear HB
       have HO_8 := n0_
       have HO_9 := n1_
       have BK195 := n2_
       have BK196 := n3_
       have HB := n4_
       clear n0_ n1_ n2_ n3_ n4_
       refine start_ (n := 9) (S := fun w' => w'.cell? ⟨gb195, 0, none⟩ = some (.string a0_0) ∧ w'.cell? ⟨gb195, 1, none⟩ = some (.slice A0_1 l0_1.length c0_1) ∧ w'.cell? ⟨gb195, 2, none⟩ = some (.bool a0_2) ∧ w'.cell? ⟨gb195, 3, none⟩ = some (.string a0_3)) (ds := []) #[false, false, false, false, false, false, false, false, false] (by kernel_rfl) rfl rfl ⟨(blk_cell BK195.out 0).trans rfl, (blk_cell BK195.out 1).trans rfl, (blk_cell BK195.out 2).trans rfl, (blk_cell BK195.out 3).trans rfl⟩ (fun hHeld => ?_); refine with_tabW spec_l1Way.tab12 spec_l1Way.bits12 (fun HT_ HW_ => ?_)
       generalize w32.drew = w34 at HO_8 HO_9 BK195 BK196 HB hHeld ⊢
       refine pure_ (i := 0) (N := some 54) (v := ?_) (a' := ?_) #[true, false, false, false, false, false, false, false, false] rfl rfl (any_of HT_.out (by kernel_rfl)) (fun _ _ _ h => h) (Or.inl ⟨by rfl, ?_⟩) ?_ ?_
       rotate_left
       ·intro w'
        go_simp
        with_reducible rfl
       rotate_left
       ·simp only [Act.put, List.setIfInBounds_toArray, List.set_cons_zero, List.set_cons_succ, i64_w, i32_w]
        rfl
       refine pure_ (i := 2) (N := some 56) (v := ?_) (a' := ?_) #[true, false, true, false, false, false, false, false, false] rfl rfl (any_of HT_.out (by kernel_rfl)) (fun _ _ _ h => h) (Or.inl ⟨by rfl, ?_⟩) ?_ ?_
       rotate_left
       ·intro w'
        go_simp
        with_reducible rfl
       rotate_left
       ·simp only [Act.put, List.setIfInBounds_toArray, List.set_cons_zero, List.set_cons_succ, i64_w, i32_w]
        rfl
       refine pure_ (i := 4) (N := some 58) (v := ?_) (a' := ?_) #[true, false, true, false, true, false, false, false, false] rfl rfl (any_of HT_.out (by kernel_rfl)) (fun _ _ _ h => h) (Or.inl ⟨by rfl, ?_⟩) ?_ ?_
       rotate_left
       ·intro w'
        go_simp
        with_reducible rfl
       rotate_left
       ·simp only [Act.put, List.setIfInBounds_toArray, List.set_cons_zero, List.set_cons_succ, i64_w, i32_w]
        rfl
       refine pure_ (i := 5) (N := some 59) (v := ?_) (a' := ?_) #[true, false, true, false, true, true, false, false, false] rfl rfl (any_of HT_.out (by kernel_rfl)) (fun _ _ _ h => h) (Or.inl ⟨by rfl, ?_⟩) ?_ ?_
       rotate_left
       ·intro w'
        go_simp
        with_reducible rfl
       rotate_left
       ·simp only [Act.put, List.setIfInBounds_toArray, List.set_cons_zero, List.set_cons_succ, i64_w, i32_w]
        rfl
       refine take_ (i := 1) (N := some 55) (v := ?_) (a' := ?_) #[true, true, true, false, true, true, false, false, false] rfl rfl (take_ofW HT_.out HW_.out (by kernel_rfl)) (fun _ _ _ h => h) (Or.inl ⟨by rfl, ?_⟩) hHeld ?_ ?_
       rotate_left
       ·rintro w' ⟨s0, s1, s2, s3⟩
        go_simp
        with_reducible rfl
       rotate_left
       ·simp only [Act.put, List.setIfInBounds_toArray, List.set_cons_zero, List.set_cons_succ, i64_w, i32_w]
        rfl
       refine join_ (σ := Value × Nat) 1 #[true, true, true, true, true, true, true, true, false] (fun s_ => [(57, s_.1), (15, .pointer (some ⟨s_.2, 0, none⟩)), (60, .agg #[.string a0_0, s_.1, .bool t199, .string t215])]) (fun s_ w' => (w'.cell? ⟨gb195, 0, none⟩ = some (.string a0_0) ∧ w'.cell? ⟨gb195, 1, none⟩ = some (.slice A0_1 l0_1.length c0_1) ∧ w'.cell? ⟨gb195, 2, none⟩ = some (.bool a0_2) ∧ w'.cell? ⟨gb195, 3, none⟩ = some (.string a0_3)) ∧ (Kd.R Kd.string 9 w' w.heap.size (fun k_ => some k_ ≠ (.slice Ao33 x8_1.length co33 : Value).ownBlock ∧ some k_ ≠ (.slice Ao31 t206.length co31 : Value).ownBlock) s_.1 t217) ∧ (Kd.R Kd.string 9 w' w.heap.size (fun k_ => some k_ ≠ (s_.1 : Value).ownBlock ∧ some k_ ≠ (.slice Ao31 t206.length co31 : Value).ownBlock) (.slice Ao33 x8_1.length co33) x8_1) ∧ (Kd.R Kd.string 9 w' w.heap.size (fun k_ => some k_ ≠ (s_.1 : Value).ownBlock ∧ some k_ ≠ (.slice Ao33 x8_1.length co33 : Value).ownBlock) (.slice Ao31 t206.length co31) t206) ∧ (w'.heap[gb195]? = some (.cells #[.string a0_0, .slice A0_1 l0_1.length c0_1, .bool a0_2, .string a0_3] 27 (0, 0))) ∧ (w'.heap[gb196]? = some (.cells #[.string x197000_1, .slice none 0 0, .bool x197002_1, .string x197003_1] 27 (0, 0))) ∧ (w'.heap[s_.2]? = some (.cells #[.string (⟨#[]⟩ : ByteArray), .slice none 0 0, .bool false, .string (⟨#[]⟩ : ByteArray)] 27 (0, 0))) ∧ (w.heap.size ≤ s_.2) ∧ (w.heap.size ≤ s_.2) ∧ (gb195 ≠ s_.2) ∧ (s_.2 ≠ gb195) ∧ (gb196 ≠ s_.2) ∧ (s_.2 ≠ gb196) ∧ (Below w.heap.size w w')) ?_ ?_
       rotate_left
       ·intro hCont
        refine two_ (i := 3) (j := 7) (Ni := some 57) (Nj := some 15) #[true, true, true, true, true, true, false, false, false] #[true, true, true, false, true, true, false, true, false] rfl rfl rfl rfl (two_of HT_.out (by kernel_rfl)) (by decide) (by decide) (fun K hK => ?_) (fun K hK => ?_)
        ·skip
         refine goes_ Try.func66 (by kernel_rfl) rfl #[.slice Ao33 x8_1.length co33] (by rfl) rfl rfl (by (try simp only [List.map_toArray, List.map_cons, List.map_nil]); first | done | rfl | (simp only [List.length_drop, List.length_take]; rfl)) ?_
         with_reducible refine (spec_PathClean.calls k1 _ _ x8_1 t217 _ ?side1 ?side2 A27.out).mono ?_
         (case side1 => repeat (first | exact (Kd.R_reads' HO_8.out).2.2 | (with_reducible refine Kd.C_alloc ?_ _) | (with_reducible refine Kd.C_drewN ?_ _) | (with_reducible refine Kd.C_drew ?_)))
         (case side2 => exact (Kd.R_reads' HO_8.out).2.1)
         rintro e w35 ⟨v218, rfl, ho0, hb⟩
         refine ⟨_, rfl, ?_⟩
         have n0_ := Aside0.mk (Kd.R_elder' (by (with_reducible repeat (first | apply Kd.R_alloc | apply Kd.R_drewN | apply Kd.R_drew)); exact HO_8.out) (Kd.R_base ho0) hb)
         have n1_ := Aside0.mk (Kd.R_elder' (by (with_reducible repeat (first | apply Kd.R_alloc | apply Kd.R_drewN | apply Kd.R_drew)); exact HO_9.out) (Kd.R_base ho0) hb)
         have n2_ := Aside0.mk (Kd.R_lower (Kd.R_new' (Kd.R_new' ho0 (Kd.R_lt (by (with_reducible repeat (first | apply Kd.R_alloc | apply Kd.R_drewN | apply Kd.R_drew)); exact HO_8.out))) (Kd.R_lt (by (with_reducible repeat (first | apply Kd.R_alloc | apply Kd.R_drewN | apply Kd.R_drew)); exact HO_9.out))) (below_size (by repeat (first | (with_reducible first | exact HB.out | apply below_alloc | apply pw_below_drewN | apply below_drew1 | refine below_set ?_ GE195.out | refine below_set ?_ GE196.out) | exact HB.out))))
         have n3_ := Aside0.mk (blk_below (g := gb195) (o := .cells #[.string a0_0, .slice A0_1 l0_1.length c0_1, .bool a0_2, .string a0_3] 27 (0, 0)) (by (with_reducible repeat (first | refine blk_drewN ?_ _ | refine blk_drew ?_ | refine blk_alloc ?_ _)); exact BK195.out) hb)
         have n4_ := Aside0.mk (blk_below (g := gb196) (o := .cells #[.string x197000_1, .slice none 0 0, .bool x197002_1, .string x197003_1] 27 (0, 0)) (by (with_reducible repeat (first | refine blk_drewN ?_ _ | refine blk_drew ?_ | refine blk_alloc ?_ _)); exact BK196.out) hb)
         have n5_ := Aside0.mk (below_step (by repeat (first | (with_reducible first | exact HB.out | apply below_alloc | apply pw_below_drewN | apply below_drew1 | refine below_set ?_ GE195.out | refine below_set ?_ GE196.out) | exact HB.out)) hb)
         clear HO_8
         clear HO_9
         clear BK195
         clear BK196
         clear HB
         have HO_8 := n0_
         have HO_9 := n1_
         have HO219 := n2_
         have BK195 := n3_
         have BK196 := n4_
         have HB := n5_
         clear n0_ n1_ n2_ n3_ n4_ n5_
         (try clear hb)
         (try clear hb2)
         (try clear hk)
         (try clear hi)
         (try clear ho0)
         obtain ⟨Ao36, co36, eo36⟩ := Kd.R_slice HO219.out
         (first | subst eo36 | (injection eo36 with f1_ f2_ f3_; have f4_ := f1_.symm; have f5_ := f3_.symm; clear f1_ f2_ f3_; subst f4_; subst f5_))
         refine hK.out _ _ ⟨(blk_cell BK195.out 0).trans rfl, (blk_cell BK195.out 1).trans rfl, (blk_cell BK195.out 2).trans rfl, (blk_cell BK195.out 3).trans rfl⟩ (fun hHeld => ?_)
         clear hK K
         refine norm_ (a' := ?_) ?_ ?_
         rotate_left
         ·show Act.put _ (some 57) _ = _
          simp only [Act.put, List.setIfInBounds_toArray, List.set_cons_zero, List.set_cons_succ, i64_w, i32_w]
          rfl
         refine pure_ (i := 6) (N := some 60) (v := ?_) (a' := ?_) #[true, true, true, true, true, true, true, false, false] rfl rfl (any_of HT_.out (by kernel_rfl)) (fun _ _ _ h => h) (Or.inl ⟨by rfl, ?_⟩) ?_ ?_
         rotate_left
         ·intro w'
          go_simp
          with_reducible rfl
         rotate_left
         ·simp only [Act.put, List.setIfInBounds_toArray, List.set_cons_zero, List.set_cons_succ, i64_w, i32_w]
          rfl
         refine one_ (i := 7) (N := some 15) #[true, true, true, true, true, true, true, true, false] rfl rfl (one_of HT_.out (by kernel_rfl)) (by decide) (fun K hK => ?_)
         refine box_step ?hg (N := 15) ?hd (cs := #[.string (⟨#[]⟩ : ByteArray), .slice none 0 0, .bool false, .string (⟨#[]⟩ : ByteArray)]) (t := 27) ?hr ?_; (case hd => rfl); (case hg => rfl); (case hr => first | (go_simp; done) | (go_simp; rfl))
         intro gb220 hg w37 hbox hb
         have n0_ := Aside0.mk (Kd.R_below (by (with_reducible repeat (first | apply Kd.R_alloc | apply Kd.R_drewN | apply Kd.R_drew)); exact HO_8.out) hb)
         have n1_ := Aside0.mk (Kd.R_below (by (with_reducible repeat (first | apply Kd.R_alloc | apply Kd.R_drewN | apply Kd.R_drew)); exact HO_9.out) hb)
         have n2_ := Aside0.mk (Kd.R_below (by (with_reducible repeat (first | apply Kd.R_alloc | apply Kd.R_drewN | apply Kd.R_drew)); exact HO219.out) hb)
         have n3_ := Aside0.mk (blk_below (g := gb195) (o := .cells #[.string a0_0, .slice A0_1 l0_1.length c0_1, .bool a0_2, .string a0_3] 27 (0, 0)) (by (with_reducible repeat (first | refine blk_drewN ?_ _ | refine blk_drew ?_ | refine blk_alloc ?_ _)); exact BK195.out) hb)
         have n4_ := Aside0.mk (blk_below (g := gb196) (o := .cells #[.string x197000_1, .slice none 0 0, .bool x197002_1, .string x197003_1] 27 (0, 0)) (by (with_reducible repeat (first | refine blk_drewN ?_ _ | refine blk_drew ?_ | refine blk_alloc ?_ _)); exact BK196.out) hb)
         have n5_ := Aside0.mk (below_step (by repeat (first | (with_reducible first | exact HB.out | apply below_alloc | apply pw_below_drewN | apply below_drew1 | refine below_set ?_ GE195.out | refine below_set ?_ GE196.out) | exact HB.out)) hb)
         have n6_ := Aside0.mk (hbox)
         have n7_ := Aside0.mk ((by rw [hg]; exact (below_size (by repeat (first | (with_reducible first | exact HB.out | apply below_alloc | apply pw_below_drewN | apply below_drew1 | refine below_set ?_ GE195.out | refine below_set ?_ GE196.out) | exact HB.out))) : w.heap.size ≤ gb220))
         have n8_ := Aside0.mk ((by rw [hg]; exact (below_size (by repeat (first | (with_reducible first | exact HB.out | apply below_alloc | apply pw_below_drewN | apply below_drew1 | refine below_set ?_ GE195.out | refine below_set ?_ GE196.out) | exact HB.out))) : w.heap.size ≤ gb220))
         have n9_ := Aside0.mk ((by rw [hg]; exact Nat.ne_of_lt (blk_lt (g := gb195) (o := .cells #[.string a0_0, .slice A0_1 l0_1.length c0_1, .bool a0_2, .string a0_3] 27 (0, 0)) (by (with_reducible repeat (first | refine blk_drewN ?_ _ | refine blk_drew ?_ | refine blk_alloc ?_ _)); exact BK195.out)) : gb195 ≠ gb220))
         have n10_ := Aside0.mk ((by rw [hg]; exact Nat.ne_of_gt (blk_lt (g := gb195) (o := .cells #[.string a0_0, .slice A0_1 l0_1.length c0_1, .bool a0_2, .string a0_3] 27 (0, 0)) (by (with_reducible repeat (first | refine blk_drewN ?_ _ | refine blk_drew ?_ | refine blk_alloc ?_ _)); exact BK195.out)) : gb220 ≠ gb195))
         have n11_ := Aside0.mk ((by rw [hg]; exact Nat.ne_of_lt (blk_lt (g := gb196) (o := .cells #[.string x197000_1, .slice none 0 0, .bool x197002_1, .string x197003_1] 27 (0, 0)) (by (with_reducible repeat (first | refine blk_drewN ?_ _ | refine blk_drew ?_ | refine blk_alloc ?_ _)); exact BK196.out)) : gb196 ≠ gb220))
         have n12_ := Aside0.mk ((by rw [hg]; exact Nat.ne_of_gt (blk_lt (g := gb196) (o := .cells #[.string x197000_1, .slice none 0 0, .bool x197002_1, .string x197003_1] 27 (0, 0)) (by (with_reducible repeat (first | refine blk_drewN ?_ _ | refine blk_drew ?_ | refine blk_alloc ?_ _)); exact BK196.out)) : gb220 ≠ gb196))
         clear HO_8
         clear HO_9
         clear HO219
         clear BK195
         clear BK196
         clear HB
         have HO_8 := n0_
         have HO_9 := n1_
         have HO219 := n2_
         have BK195 := n3_
         have BK196 := n4_
         have HB := n5_
         have BK220 := n6_
         have GW220 := n7_
         have GE220 := n8_
         have NB195_220 := n9_
         have NB220_195 := n10_
         have NB196_220 := n11_
         have NB220_196 := n12_
         clear n0_ n1_ n2_ n3_ n4_ n5_ n6_ n7_ n8_ n9_ n10_ n11_ n12_
         clear hb hbox hg
         refine hK.out _ _ ⟨(blk_cell BK195.out 0).trans rfl, (blk_cell BK195.out 1).trans rfl, (blk_cell BK195.out 2).trans rfl, (blk_cell BK195.out 3).trans rfl⟩ (fun hHeld => ?_)
         clear hK K
         refine norm_ (a' := ?_) ?_ ?_
         rotate_left
         ·show Act.put _ (some 15) _ = _
          simp only [Act.put, List.setIfInBounds_toArray, List.set_cons_zero, List.set_cons_succ, i64_w, i32_w]
          rfl
         exact norm_ (by simp only [putAll, Act.put, List.setIfInBounds_toArray, List.set_cons_zero, List.set_cons_succ]) (hCont (.slice Ao36 t217.length co36, gb220) _ ⟨hHeld, (by (with_reducible repeat (first | apply Kd.R_alloc | apply Kd.R_drewN | apply Kd.R_drew)); exact Kd.R_mono HO219.out (fun _ hk => ⟨hk.1.2, hk.2⟩)), (by (with_reducible repeat (first | apply Kd.R_alloc | apply Kd.R_drewN | apply Kd.R_drew)); exact Kd.R_mono HO_8.out (fun _ hk => ⟨hk.2, hk.1⟩)), (by (with_reducible repeat (first | apply Kd.R_alloc | apply Kd.R_drewN | apply Kd.R_drew)); exact Kd.R_mono HO_9.out (fun _ hk => ⟨hk.2, hk.1⟩)), (by (with_reducible repeat (first | refine blk_drewN ?_ _ | refine blk_drew ?_ | refine blk_alloc ?_ _)); exact BK195.out), (by (with_reducible repeat (first | refine blk_drewN ?_ _ | refine blk_drew ?_ | refine blk_alloc ?_ _)); exact BK196.out), (by (with_reducible repeat (first | refine blk_drewN ?_ _ | refine blk_drew ?_ | refine blk_alloc ?_ _)); exact BK220.out), GW220.out, GE220.out, NB195_220.out, NB220_195.out, NB196_220.out, NB220_196.out, (by repeat (first | (with_reducible first | exact HB.out | apply below_alloc | apply pw_below_drewN | apply below_drew1 | refine below_set ?_ GE195.out | refine below_set ?_ GE196.out | refine below_set ?_ GE220.out) | exact HB.out))⟩)
        ·skip
         refine box_step ?hg (N := 15) ?hd (cs := #[.string (⟨#[]⟩ : ByteArray), .slice none 0 0, .bool false, .string (⟨#[]⟩ : ByteArray)]) (t := 27) ?hr ?_; (case hd => rfl); (case hg => rfl); (case hr => first | (go_simp; done) | (go_simp; rfl))
         intro gb220 hg w35 hbox hb
         have n0_ := Aside0.mk (Kd.R_below (by (with_reducible repeat (first | apply Kd.R_alloc | apply Kd.R_drewN | apply Kd.R_drew)); exact HO_8.out) hb)
         have n1_ := Aside0.mk (Kd.R_below (by (with_reducible repeat (first | apply Kd.R_alloc | apply Kd.R_drewN | apply Kd.R_drew)); exact HO_9.out) hb)
         have n2_ := Aside0.mk (blk_below (g := gb195) (o := .cells #[.string a0_0, .slice A0_1 l0_1.length c0_1, .bool a0_2, .string a0_3] 27 (0, 0)) (by (with_reducible repeat (first | refine blk_drewN ?_ _ | refine blk_drew ?_ | refine blk_alloc ?_ _)); exact BK195.out) hb)
         have n3_ := Aside0.mk (blk_below (g := gb196) (o := .cells #[.string x197000_1, .slice none 0 0, .bool x197002_1, .string x197003_1] 27 (0, 0)) (by (with_reducible repeat (first | refine blk_drewN ?_ _ | refine blk_drew ?_ | refine blk_alloc ?_ _)); exact BK196.out) hb)
         have n4_ := Aside0.mk (below_step (by repeat (first | (with_reducible first | exact HB.out | apply below_alloc | apply pw_below_drewN | apply below_drew1 | refine below_set ?_ GE195.out | refine below_set ?_ GE196.out) | exact HB.out)) hb)
         have n5_ := Aside0.mk (hbox)
         have n6_ := Aside0.mk ((by rw [hg]; exact (below_size (by repeat (first | (with_reducible first | exact HB.out | apply below_alloc | apply pw_below_drewN | apply below_drew1 | refine below_set ?_ GE195.out | refine below_set ?_ GE196.out) | exact HB.out))) : w.heap.size ≤ gb220))
         have n7_ := Aside0.mk ((by rw [hg]; exact (below_size (by repeat (first | (with_reducible first | exact HB.out | apply below_alloc | apply pw_below_drewN | apply below_drew1 | refine below_set ?_ GE195.out | refine below_set ?_ GE196.out) | exact HB.out))) : w.heap.size ≤ gb220))
         have n8_ := Aside0.mk ((by rw [hg]; exact Nat.ne_of_lt (blk_lt (g := gb195) (o := .cells #[.string a0_0, .slice A0_1 l0_1.length c0_1, .bool a0_2, .string a0_3] 27 (0, 0)) (by (with_reducible repeat (first | refine blk_drewN ?_ _ | refine blk_drew ?_ | refine blk_alloc ?_ _)); exact BK195.out)) : gb195 ≠ gb220))
         have n9_ := Aside0.mk ((by rw [hg]; exact Nat.ne_of_gt (blk_lt (g := gb195) (o := .cells #[.string a0_0, .slice A0_1 l0_1.length c0_1, .bool a0_2, .string a0_3] 27 (0, 0)) (by (with_reducible repeat (first | refine blk_drewN ?_ _ | refine blk_drew ?_ | refine blk_alloc ?_ _)); exact BK195.out)) : gb220 ≠ gb195))
         have n10_ := Aside0.mk ((by rw [hg]; exact Nat.ne_of_lt (blk_lt (g := gb196) (o := .cells #[.string x197000_1, .slice none 0 0, .bool x197002_1, .string x197003_1] 27 (0, 0)) (by (with_reducible repeat (first | refine blk_drewN ?_ _ | refine blk_drew ?_ | refine blk_alloc ?_ _)); exact BK196.out)) : gb196 ≠ gb220))
         have n11_ := Aside0.mk ((by rw [hg]; exact Nat.ne_of_gt (blk_lt (g := gb196) (o := .cells #[.string x197000_1, .slice none 0 0, .bool x197002_1, .string x197003_1] 27 (0, 0)) (by (with_reducible repeat (first | refine blk_drewN ?_ _ | refine blk_drew ?_ | refine blk_alloc ?_ _)); exact BK196.out)) : gb220 ≠ gb196))
         clear HO_8
         clear HO_9
         clear BK195
         clear BK196
         clear HB
         have HO_8 := n0_
         have HO_9 := n1_
         have BK195 := n2_
         have BK196 := n3_
         have HB := n4_
         have BK220 := n5_
         have GW220 := n6_
         have GE220 := n7_
         have NB195_220 := n8_
         have NB220_195 := n9_
         have NB196_220 := n10_
         have NB220_196 := n11_
         clear n0_ n1_ n2_ n3_ n4_ n5_ n6_ n7_ n8_ n9_ n10_ n11_
         clear hb hbox hg
         refine hK.out _ _ ⟨(blk_cell BK195.out 0).trans rfl, (blk_cell BK195.out 1).trans rfl, (blk_cell BK195.out 2).trans rfl, (blk_cell BK195.out 3).trans rfl⟩ (fun hHeld => ?_)
         clear hK K
         refine norm_ (a' := ?_) ?_ ?_
         rotate_left
         ·show Act.put _ (some 15) _ = _
          simp only [Act.put, List.setIfInBounds_toArray, List.set_cons_zero, List.set_cons_succ, i64_w, i32_w]
          rfl
         refine one_ (i := 3) (N := some 57) #[true, true, true, true, true, true, false, true, false] rfl rfl (one_of HT_.out (by kernel_rfl)) (by decide) (fun K hK => ?_)
         refine goes_ Try.func66 (by kernel_rfl) rfl #[.slice Ao33 x8_1.length co33] (by rfl) rfl rfl (by (try simp only [List.map_toArray, List.map_cons, List.map_nil]); first | done | rfl | (simp only [List.length_drop, List.length_take]; rfl)) ?_
         with_reducible refine (spec_PathClean.calls k1 _ _ x8_1 t217 _ ?side1 ?side2 A27.out).mono ?_
         (case side1 => repeat (first | exact (Kd.R_reads' HO_8.out).2.2 | (with_reducible refine Kd.C_alloc ?_ _) | (with_reducible refine Kd.C_drewN ?_ _) | (with_reducible refine Kd.C_drew ?_)))
         (case side2 => exact (Kd.R_reads' HO_8.out).2.1)
         rintro e w36 ⟨v218, rfl, ho0, hb⟩
         refine ⟨_, rfl, ?_⟩
         have n0_ := Aside0.mk (Kd.R_elder' (by (with_reducible repeat (first | apply Kd.R_alloc | apply Kd.R_drewN | apply Kd.R_drew)); exact HO_8.out) (Kd.R_base ho0) hb)
         have n1_ := Aside0.mk (Kd.R_elder' (by (with_reducible repeat (first | apply Kd.R_alloc | apply Kd.R_drewN | apply Kd.R_drew)); exact HO_9.out) (Kd.R_base ho0) hb)
         have n2_ := Aside0.mk (Kd.R_lower (Kd.R_new' (Kd.R_new' ho0 (Kd.R_lt (by (with_reducible repeat (first | apply Kd.R_alloc | apply Kd.R_drewN | apply Kd.R_drew)); exact HO_8.out))) (Kd.R_lt (by (with_reducible repeat (first | apply Kd.R_alloc | apply Kd.R_drewN | apply Kd.R_drew)); exact HO_9.out))) (below_size (by repeat (first | (with_reducible first | exact HB.out | apply below_alloc | apply pw_below_drewN | apply below_drew1 | refine below_set ?_ GE195.out | refine below_set ?_ GE196.out | refine below_set ?_ GE220.out) | exact HB.out))))
         have n3_ := Aside0.mk (blk_below (g := gb195) (o := .cells #[.string a0_0, .slice A0_1 l0_1.length c0_1, .bool a0_2, .string a0_3] 27 (0, 0)) (by (with_reducible repeat (first | refine blk_drewN ?_ _ | refine blk_drew ?_ | refine blk_alloc ?_ _)); exact BK195.out) hb)
         have n4_ := Aside0.mk (blk_below (g := gb196) (o := .cells #[.string x197000_1, .slice none 0 0, .bool x197002_1, .string x197003_1] 27 (0, 0)) (by (with_reducible repeat (first | refine blk_drewN ?_ _ | refine blk_drew ?_ | refine blk_alloc ?_ _)); exact BK196.out) hb)
         have n5_ := Aside0.mk (blk_below (g := gb220) (o := .cells #[.string (⟨#[]⟩ : ByteArray), .slice none 0 0, .bool false, .string (⟨#[]⟩ : ByteArray)] 27 (0, 0)) (by (with_reducible repeat (first | refine blk_drewN ?_ _ | refine blk_drew ?_ | refine blk_alloc ?_ _)); exact BK220.out) hb)
         have n6_ := Aside0.mk (below_step (by repeat (first | (with_reducible first | exact HB.out | apply below_alloc | apply pw_below_drewN | apply below_drew1 | refine below_set ?_ GE195.out | refine below_set ?_ GE196.out | refine below_set ?_ GE220.out) | exact HB.out)) hb)
         clear HO_8
         clear HO_9
         clear BK195
         clear BK196
         clear BK220
         clear HB
         have HO_8 := n0_
         have HO_9 := n1_
         have HO219 := n2_
         have BK195 := n3_
         have BK196 := n4_
         have BK220 := n5_
         have HB := n6_
         clear n0_ n1_ n2_ n3_ n4_ n5_ n6_
         (try clear hb)
         (try clear hb2)
         (try clear hk)
         (try clear hi)
         (try clear ho0)
         obtain ⟨Ao37, co37, eo37⟩ := Kd.R_slice HO219.out
         (first | subst eo37 | (injection eo37 with f1_ f2_ f3_; have f4_ := f1_.symm; have f5_ := f3_.symm; clear f1_ f2_ f3_; subst f4_; subst f5_))
         refine hK.out _ _ ⟨(blk_cell BK195.out 0).trans rfl, (blk_cell BK195.out 1).trans rfl, (blk_cell BK195.out 2).trans rfl, (blk_cell BK195.out 3).trans rfl⟩ (fun hHeld => ?_)
         clear hK K
         refine norm_ (a' := ?_) ?_ ?_
         rotate_left
         ·show Act.put _ (some 57) _ = _
          simp only [Act.put, List.setIfInBounds_toArray, List.set_cons_zero, List.set_cons_succ, i64_w, i32_w]
          rfl
         refine pure_ (i := 6) (N := some 60) (v := ?_) (a' := ?_) #[true, true, true, true, true, true, true, true, false] rfl rfl (any_of HT_.out (by kernel_rfl)) (fun _ _ _ h => h) (Or.inl ⟨by rfl, ?_⟩) ?_ ?_
         rotate_left
         ·intro w'
          go_simp
          with_reducible rfl
         rotate_left
         ·simp only [Act.put, List.setIfInBounds_toArray, List.set_cons_zero, List.set_cons_succ, i64_w, i32_w]
          rfl
         exact norm_ (by simp only [putAll, Act.put, List.setIfInBounds_toArray, List.set_cons_zero, List.set_cons_succ]) (hCont (.slice Ao37 t217.length co37, gb220) _ ⟨hHeld, (by (with_reducible repeat (first | apply Kd.R_alloc | apply Kd.R_drewN | apply Kd.R_drew)); exact Kd.R_mono HO219.out (fun _ hk => ⟨hk.1.2, hk.2⟩)), (by (with_reducible repeat (first | apply Kd.R_alloc | apply Kd.R_drewN | apply Kd.R_drew)); exact Kd.R_mono HO_8.out (fun _ hk => ⟨hk.2, hk.1⟩)), (by (with_reducible repeat (first | apply Kd.R_alloc | apply Kd.R_drewN | apply Kd.R_drew)); exact Kd.R_mono HO_9.out (fun _ hk => ⟨hk.2, hk.1⟩)), (by (with_reducible repeat (first | refine blk_drewN ?_ _ | refine blk_drew ?_ | refine blk_alloc ?_ _)); exact BK195.out), (by (with_reducible repeat (first | refine blk_drewN ?_ _ | refine blk_drew ?_ | refine blk_alloc ?_ _)); exact BK196.out), (by (with_reducible repeat (first | refine blk_drewN ?_ _ | refine blk_drew ?_ | refine blk_alloc ?_ _)); exact BK220.out), GW220.out, GE220.out, NB195_220.out, NB220_195.out, NB196_220.out, NB220_196.out, (by repeat (first | (with_reducible first | exact HB.out | apply below_alloc | apply pw_below_drewN | apply below_drew1 | refine below_set ?_ GE195.out | refine below_set ?_ GE196.out | refine below_set ?_ GE220.out) | exact HB.out))⟩)
       rintro ⟨v218, gb220⟩ w38 ⟨hS_, h0_, h1_, h2_, h3_, h4_, h5_, h6_, h7_, h8_, h9_, h10_, h11_, h12_⟩
       have n0_ : Aside0 (Kd.R Kd.string 9 w38 w.heap.size (fun k_ => some k_ ≠ (.slice Ao33 x8_1.length co33 : Value).ownBlock ∧ some k_ ≠ (.slice Ao31 t206.length co31 : Value).ownBlock) v218 t217) := ⟨h0_⟩
       have n1_ : Aside0 (Kd.R Kd.string 9 w38 w.heap.size (fun k_ => some k_ ≠ (v218 : Value).ownBlock ∧ some k_ ≠ (.slice Ao31 t206.length co31 : Value).ownBlock) (.slice Ao33 x8_1.length co33) x8_1) := ⟨h1_⟩
       have n2_ : Aside0 (Kd.R Kd.string 9 w38 w.heap.size (fun k_ => some k_ ≠ (v218 : Value).ownBlock ∧ some k_ ≠ (.slice Ao33 x8_1.length co33 : Value).ownBlock) (.slice Ao31 t206.length co31) t206) := ⟨h2_⟩
       have n3_ : Aside0 (w38.heap[gb195]? = some (.cells #[.string a0_0, .slice A0_1 l0_1.length c0_1, .bool a0_2, .string a0_3] 27 (0, 0))) := ⟨h3_⟩
       have n4_ : Aside0 (w38.heap[gb196]? = some (.cells #[.string x197000_1, .slice none 0 0, .bool x197002_1, .string x197003_1] 27 (0, 0))) := ⟨h4_⟩
       have n5_ : Aside0 (w38.heap[gb220]? = some (.cells #[.string (⟨#[]⟩ : ByteArray), .slice none 0 0, .bool false, .string (⟨#[]⟩ : ByteArray)] 27 (0, 0))) := ⟨h5_⟩
       have n6_ : Aside0 (w.heap.size ≤ gb220) := ⟨h6_⟩
       have n7_ : Aside0 (w.heap.size ≤ gb220) := ⟨h7_⟩
       have n8_ : Aside0 (gb195 ≠ gb220) := ⟨h8_⟩
       have n9_ : Aside0 (gb220 ≠ gb195) := ⟨h9_⟩
       have n10_ : Aside0 (gb196 ≠ gb220) := ⟨h10_⟩
       have n11_ : Aside0 (gb220 ≠ gb196) := ⟨h11_⟩
       have n12_ : Aside0 (Below w.heap.size w w38) := ⟨h12_⟩
       clear HO_8
       clear HO_9
       clear BK195
       clear BK196
       clear HB
       clear h0_ h1_ h2_ h3_ h4_ h5_ h6_ h7_ h8_ h9_ h10_ h11_ h12_
       have HO219 := n0_
       have HO_8 := n1_
       have HO_9 := n2_
       have BK195 := n3_
       have BK196 := n4_
       have BK220 := n5_
       have GW220 := n6_
       have GE220 := n7_
       have NB195_220 := n8_
       have NB220_195 := n9_
       have NB196_220 := n10_
       have NB220_196 := n11_
       have HB := n12_
       clear n0_ n1_ n2_ n3_ n4_ n5_ n6_ n7_ n8_ n9_ n10_ n11_ n12_
       have hHeld : w38.cell? ⟨gb195, 0, none⟩ = some (.string a0_0) ∧ w38.cell? ⟨gb195, 1, none⟩ = some (.slice A0_1 l0_1.length c0_1) ∧ w38.cell? ⟨gb195, 2, none⟩ = some (.bool a0_2) ∧ w38.cell? ⟨gb195, 3, none⟩ = some (.string a0_3) := hS_
       obtain ⟨Ao39, co39, eo39⟩ := Kd.R_slice HO219.out
       (first | subst eo39 | (injection eo39 with f1_ f2_ f3_; have f4_ := f1_.symm; have f5_ := f3_.symm; clear f1_ f2_ f3_; subst f4_; subst f5_))
       refine norm_ (a' := ?_) ?_ ?_
       rotate_left
       ·simp only [putAll, Act.put, List.setIfInBounds_toArray, List.set_cons_zero, List.set_cons_succ]
        rfl
       refine one_ (i := 8) (N := none) #[true, true, true, true, true, true, true, true, true] rfl rfl (one_of HT_.out (by kernel_rfl)) (by decide) (fun K hK => ?_)
       have hs40 : w38.cell? ⟨gb220, 0, none⟩ = some (.string (⟨#[]⟩ : ByteArray)) := (blk_cell BK220.out 0).trans rfl
       have hfs40 := blk_frozen BK220.out 0
       have hns40_0 := NB195_220.out
       have hns40_1 := NB196_220.out
       have hms40_0 := NB220_195.out
       have hms40_1 := NB220_196.out
       have hs41 : w38.cell? ⟨gb220, 1, none⟩ = some (.slice none 0 0) := (blk_cell BK220.out 1).trans rfl
       have hfs41 := blk_frozen BK220.out 1
       have hns41_0 := NB195_220.out
       have hns41_1 := NB196_220.out
       have hms41_0 := NB220_195.out
       have hms41_1 := NB220_196.out
       have hs42 : w38.cell? ⟨gb220, 2, none⟩ = some (.bool false) := (blk_cell BK220.out 2).trans rfl
       have hfs42 := blk_frozen BK220.out 2
       have hns42_0 := NB195_220.out
       have hns42_1 := NB196_220.out
       have hms42_0 := NB220_195.out
       have hms42_1 := NB220_196.out
       have hs43 : w38.cell? ⟨gb220, 3, none⟩ = some (.string (⟨#[]⟩ : ByteArray)) := (blk_cell BK220.out 3).trans rfl
       have hfs43 := blk_frozen BK220.out 3
       have hns43_0 := NB195_220.out
       have hns43_1 := NB196_220.out
       have hms43_0 := NB220_195.out
       have hms43_1 := NB220_196.out
       refine skip_ (w1 := ?_) (by rfl) rfl ?_ ?_
       rotate_left
       ·go_simp
        rfl
       refine hK.out _ _ ⟨((cell_far (p := ⟨gb220, _, none⟩) NB195_220.out _).trans (((cell_far (p := ⟨gb220, _, none⟩) NB195_220.out _).trans (((cell_far (p := ⟨gb220, _, none⟩) NB195_220.out _).trans (((cell_far (p := ⟨gb220, _, none⟩) NB195_220.out _).trans (hHeld.1)))))))), ((cell_far (p := ⟨gb220, _, none⟩) NB195_220.out _).trans (((cell_far (p := ⟨gb220, _, none⟩) NB195_220.out _).trans (((cell_far (p := ⟨gb220, _, none⟩) NB195_220.out _).trans (((cell_far (p := ⟨gb220, _, none⟩) NB195_220.out _).trans (hHeld.2.1)))))))), ((cell_far (p := ⟨gb220, _, none⟩) NB195_220.out _).trans (((cell_far (p := ⟨gb220, _, none⟩) NB195_220.out _).trans (((cell_far (p := ⟨gb220, _, none⟩) NB195_220.out _).trans (((cell_far (p := ⟨gb220, _, none⟩) NB195_220.out _).trans (hHeld.2.2.1)))))))), ((cell_far (p := ⟨gb220, _, none⟩) NB195_220.out _).trans (((cell_far (p := ⟨gb220, _, none⟩) NB195_220.out _).trans (((cell_far (p := ⟨gb220, _, none⟩) NB195_220.out _).trans (((cell_far (p := ⟨gb220, _, none⟩) NB195_220.out _).trans (hHeld.2.2.2))))))))⟩ (fun hHeld => ?_)
       clear hK K
       refine done_ (done_of HT_.out (by kernel_rfl)) ?_
       have hnb44 := NB220_195.out
       have hnc44 := NB195_220.out
       have hnb45 := NB220_196.out
       have hnc45 := NB196_220.out
       have hcz46_0 : w38.cell? ⟨gb220, 0, none⟩ = some (.string (⟨#[]⟩ : ByteArray)) := (blk_cell BK220.out 0).trans rfl
       have hcz46_1 : w38.cell? ⟨gb220, 1, none⟩ = some (.slice none 0 0) := (blk_cell BK220.out 1).trans rfl
       have hcz46_2 : w38.cell? ⟨gb220, 2, none⟩ = some (.bool false) := (blk_cell BK220.out 2).trans rfl
       have hcz46_3 : w38.cell? ⟨gb220, 3, none⟩ = some (.string (⟨#[]⟩ : ByteArray)) := (blk_cell BK220.out 3).trans rfl
       have hfz46_0 := blk_frozen BK220.out 0
       have hfz46_1 := blk_frozen BK220.out 1
       have hfz46_2 := blk_frozen BK220.out 2
       have hfz46_3 := blk_frozen BK220.out 3
       try go_wp2_with (first | (go_at_call 11; (with_reducible refine (spec_AddrOk.calls k1 a0_0 _ _ t217 t199 t215 true _ ?side1 ?side2 A29.out).mono ?_); (case side1 => refine (Kd.R_reads' (e := 9) (base := w.heap.size) (ok := fun k_ => (some k_ ≠ (.slice Ao33 x8_1.length co33 : Value).ownBlock ∧ some k_ ≠ (.slice Ao31 t206.length co31 : Value).ownBlock)) (n := t217.length) (c := co39) ?_).2.2; exact (by (with_reducible repeat (first | apply Kd.R_alloc | apply Kd.R_drewN | apply Kd.R_drew)); exact (Kd.R_mono (Kd.R_far (p := ⟨gb220, 3, none⟩) (Kd.R_far (p := ⟨gb220, 2, none⟩) (Kd.R_far (p := ⟨gb220, 1, none⟩) (Kd.R_far (p := ⟨gb220, 0, none⟩) (Kd.R_types HO219.out BK220.out (by decide)) (fun _ hk => hk.2) (.string a0_0)) (fun _ hk => hk.2) (.slice Ao39 t217.length co39)) (fun _ hk => hk.2) (.bool t199)) (fun _ hk => hk.2) (.string t215)) (fun _ h_ => h_.1)))); (case side2 => exact (Kd.R_reads' HO219.out).2.1); rintro e w47 ⟨rfl, hb⟩; have n0_ := Aside0.mk (Kd.R_below (by (with_reducible repeat (first | apply Kd.R_alloc | apply Kd.R_drewN | apply Kd.R_drew)); exact (Kd.R_mono (Kd.R_far (p := ⟨gb220, 3, none⟩) (Kd.R_far (p := ⟨gb220, 2, none⟩) (Kd.R_far (p := ⟨gb220, 1, none⟩) (Kd.R_far (p := ⟨gb220, 0, none⟩) (Kd.R_types HO_8.out BK220.out (by decide)) (fun _ hk => hk.2) (.string a0_0)) (fun _ hk => hk.2) (.slice Ao39 t217.length co39)) (fun _ hk => hk.2) (.bool t199)) (fun _ hk => hk.2) (.string t215)) (fun _ h_ => h_.1))) hb); have n1_ := Aside0.mk (Kd.R_below (by (with_reducible repeat (first | apply Kd.R_alloc | apply Kd.R_drewN | apply Kd.R_drew)); exact (Kd.R_mono (Kd.R_far (p := ⟨gb220, 3, none⟩) (Kd.R_far (p := ⟨gb220, 2, none⟩) (Kd.R_far (p := ⟨gb220, 1, none⟩) (Kd.R_far (p := ⟨gb220, 0, none⟩) (Kd.R_types HO_9.out BK220.out (by decide)) (fun _ hk => hk.2) (.string a0_0)) (fun _ hk => hk.2) (.slice Ao39 t217.length co39)) (fun _ hk => hk.2) (.bool t199)) (fun _ hk => hk.2) (.string t215)) (fun _ h_ => h_.1))) hb); have n2_ := Aside0.mk (Kd.R_below (by (with_reducible repeat (first | apply Kd.R_alloc | apply Kd.R_drewN | apply Kd.R_drew)); exact (Kd.R_mono (Kd.R_far (p := ⟨gb220, 3, none⟩) (Kd.R_far (p := ⟨gb220, 2, none⟩) (Kd.R_far (p := ⟨gb220, 1, none⟩) (Kd.R_far (p := ⟨gb220, 0, none⟩) (Kd.R_types HO219.out BK220.out (by decide)) (fun _ hk => hk.2) (.string a0_0)) (fun _ hk => hk.2) (.slice Ao39 t217.length co39)) (fun _ hk => hk.2) (.bool t199)) (fun _ hk => hk.2) (.string t215)) (fun _ h_ => h_.1))) hb); have n3_ := Aside0.mk (blk_below (g := gb195) (o := .cells #[.string a0_0, .slice A0_1 l0_1.length c0_1, .bool a0_2, .string a0_3] 27 (0, 0)) (by (with_reducible repeat (first | refine blk_drewN ?_ _ | refine blk_drew ?_ | refine blk_alloc ?_ _)); refine blk_far ?_ NB195_220.out _; (with_reducible repeat (first | refine blk_drewN ?_ _ | refine blk_drew ?_ | refine blk_alloc ?_ _)); refine blk_far ?_ NB195_220.out _; (with_reducible repeat (first | refine blk_drewN ?_ _ | refine blk_drew ?_ | refine blk_alloc ?_ _)); refine blk_far ?_ NB195_220.out _; (with_reducible repeat (first | refine blk_drewN ?_ _ | refine blk_drew ?_ | refine blk_alloc ?_ _)); refine blk_far ?_ NB195_220.out _; (with_reducible repeat (first | refine blk_drewN ?_ _ | refine blk_drew ?_ | refine blk_alloc ?_ _)); exact BK195.out) hb); have n4_ := Aside0.mk (blk_below (g := gb196) (o := .cells #[.string x197000_1, .slice none 0 0, .bool x197002_1, .string x197003_1] 27 (0, 0)) (by (with_reducible repeat (first | refine blk_drewN ?_ _ | refine blk_drew ?_ | refine blk_alloc ?_ _)); refine blk_far ?_ NB196_220.out _; (with_reducible repeat (first | refine blk_drewN ?_ _ | refine blk_drew ?_ | refine blk_alloc ?_ _)); refine blk_far ?_ NB196_220.out _; (with_reducible repeat (first | refine blk_drewN ?_ _ | refine blk_drew ?_ | refine blk_alloc ?_ _)); refine blk_far ?_ NB196_220.out _; (with_reducible repeat (first | refine blk_drewN ?_ _ | refine blk_drew ?_ | refine blk_alloc ?_ _)); refine blk_far ?_ NB196_220.out _; (with_reducible repeat (first | refine blk_drewN ?_ _ | refine blk_drew ?_ | refine blk_alloc ?_ _)); exact BK196.out) hb); have n5_ := Aside0.mk (blk_below (g := gb220) (o := .cells #[.string a0_0, .slice Ao39 t217.length co39, .bool t199, .string t215] 27 (0, 0)) (by (with_reducible repeat (first | refine blk_drewN ?_ _ | refine blk_drew ?_ | refine blk_alloc ?_ _)); refine blk_put (cs := #[.string a0_0, .slice Ao39 t217.length co39, .bool t199, .string (⟨#[]⟩ : ByteArray)]) ?_ 3 _ rfl; (with_reducible repeat (first | refine blk_drewN ?_ _ | refine blk_drew ?_ | refine blk_alloc ?_ _)); refine blk_put (cs := #[.string a0_0, .slice Ao39 t217.length co39, .bool false, .string (⟨#[]⟩ : ByteArray)]) ?_ 2 _ rfl; (with_reducible repeat (first | refine blk_drewN ?_ _ | refine blk_drew ?_ | refine blk_alloc ?_ _)); refine blk_put (cs := #[.string a0_0, .slice none 0 0, .bool false, .string (⟨#[]⟩ : ByteArray)]) ?_ 1 _ rfl; (with_reducible repeat (first | refine blk_drewN ?_ _ | refine blk_drew ?_ | refine blk_alloc ?_ _)); refine blk_put (cs := #[.string (⟨#[]⟩ : ByteArray), .slice none 0 0, .bool false, .string (⟨#[]⟩ : ByteArray)]) ?_ 0 _ rfl; (with_reducible repeat (first | refine blk_drewN ?_ _ | refine blk_drew ?_ | refine blk_alloc ?_ _)); exact BK220.out) hb); have n6_ := Aside0.mk (below_step (by repeat (first | (with_reducible first | exact HB.out | apply below_alloc | apply pw_below_drewN | apply below_drew1 | refine below_set ?_ GE195.out | refine below_set ?_ GE196.out | refine below_set ?_ GE220.out) | exact HB.out)) hb); clear HO_8; clear HO_9; clear HO219; clear BK195; clear BK196; clear BK220; clear HB; have HO_8 := n0_; have HO_9 := n1_; have HO219 := n2_; have BK195 := n3_; have BK196 := n4_; have BK220 := n5_; have HB := n6_; clear n0_ n1_ n2_ n3_ n4_ n5_ n6_; (try clear hb); (try clear hb2); (try clear hk); (try clear hi); have hcz48_0 : w47.cell? ⟨gb220, 0, none⟩ = some (.string a0_0) := (blk_cell BK220.out 0).trans rfl; have hcz48_1 : w47.cell? ⟨gb220, 1, none⟩ = some (.slice Ao39 t217.length co39) := (blk_cell BK220.out 1).trans rfl; have hcz48_2 : w47.cell? ⟨gb220, 2, none⟩ = some (.bool t199) := (blk_cell BK220.out 2).trans rfl; have hcz48_3 : w47.cell? ⟨gb220, 3, none⟩ = some (.string t215) := (blk_cell BK220.out 3).trans rfl; have hfz48_0 := blk_frozen BK220.out 0; have hfz48_1 := blk_frozen BK220.out 1; have hfz48_2 := blk_frozen BK220.out 2; have hfz48_3 := blk_frozen BK220.out 3; have hnb49 := NB196_195.out; have hnc49 := NB195_196.out; have hcz50_0 : w47.cell? ⟨gb196, 0, none⟩ = some (.string x197000_1) := (blk_cell BK196.out 0).trans rfl; have hcz50_1 : w47.cell? ⟨gb196, 1, none⟩ = some (.slice none 0 0) := (blk_cell BK196.out 1).trans rfl; have hcz50_2 : w47.cell? ⟨gb196, 2, none⟩ = some (.bool x197002_1) := (blk_cell BK196.out 2).trans rfl; have hcz50_3 : w47.cell? ⟨gb196, 3, none⟩ = some (.string x197003_1) := (blk_cell BK196.out 3).trans rfl; have hfz50_0 := blk_frozen BK196.out 0; have hfz50_1 := blk_frozen BK196.out 1; have hfz50_2 := blk_frozen BK196.out 2; have hfz50_3 := blk_frozen BK196.out 3))
       refine bodyPost_ret (results_ct rfl _ _ gb196 27 #[.string a0_0, .slice Ao39 t217.length co39, .bool t199, .string t215] (0, 0) _ rfl (by (with_reducible repeat (first | refine blk_drewN ?_ _ | refine blk_drew ?_ | refine blk_alloc ?_ _)); refine blk_put (cs := #[.string a0_0, .slice Ao39 t217.length co39, .bool t199, .string x197003_1]) ?_ 3 _ rfl; (with_reducible repeat (first | refine blk_drewN ?_ _ | refine blk_drew ?_ | refine blk_alloc ?_ _)); refine blk_put (cs := #[.string a0_0, .slice Ao39 t217.length co39, .bool x197002_1, .string x197003_1]) ?_ 2 _ rfl; (with_reducible repeat (first | refine blk_drewN ?_ _ | refine blk_drew ?_ | refine blk_alloc ?_ _)); refine blk_put (cs := #[.string a0_0, .slice none 0 0, .bool x197002_1, .string x197003_1]) ?_ 1 _ rfl; (with_reducible repeat (first | refine blk_drewN ?_ _ | refine blk_drew ?_ | refine blk_alloc ?_ _)); refine blk_put (cs := #[.string x197000_1, .slice none 0 0, .bool x197002_1, .string x197003_1]) ?_ 0 _ rfl; (with_reducible repeat (first | refine blk_drewN ?_ _ | refine blk_drew ?_ | refine blk_alloc ?_ _)); exact BK196.out) Try.underlying27 rfl (by kernel_rfl)) rfl ?_
       exact ⟨_, by first | rfl | (simp <;> rfl) | (simp [*] <;> rfl), by (with_reducible repeat (first | apply Kd.R_alloc | apply Kd.R_drewN | apply Kd.R_drew)); exact Kd.R_mono (Kd.R_far (p := ⟨gb196, 3, none⟩) (Kd.R_far (p := ⟨gb196, 2, none⟩) (Kd.R_far (p := ⟨gb196, 1, none⟩) (Kd.R_far (p := ⟨gb196, 0, none⟩) (Kd.R_types HO219.out BK196.out (by decide)) (fun _ hk => hk.2) (.string a0_0)) (fun _ hk => hk.2) (.slice Ao39 t217.length co39)) (fun _ hk => hk.2) (.bool t199)) (fun _ hk => hk.2) (.string t215)) (fun _ hk => trivial), by repeat (first | (with_reducible first | exact HB.out | apply below_alloc | apply pw_below_drewN | apply below_drew1 | refine below_set ?_ GE195.out | refine below_set ?_ GE196.out | refine below_set ?_ GE220.out) | exact HB.out)⟩
      ·replace c30 := Bool.eq_false_iff.mpr c30
       subst c30
       have H1 : (some ((⟨#[]⟩ : ByteArray), ([] : List ByteArray), false, (⟨#[]⟩ : ByteArray), false)) = some (r1, r2, r3, r4, r5) := by rw [if_neg (show ¬ (false = true) by decide)] at H; exact H
       clear H
       have H := H1
       clear H1
       simp only [Option.some.injEq, Prod.mk.injEq] at H
       obtain ⟨rfl, rfl, rfl, rfl, rfl⟩ := H
       obtain ⟨Ao51, co51, eo51⟩ := Kd.R_slice HO_9.out
       subst eo51
       try go_wp2_with (first | ((with_reducible refine gate_callee (f := 42) rfl ?_); refine goesL_ (some 51) rfl rfl Try.func42 (by kernel_rfl) rfl #[.string t198] rfl (by (try simp only [List.map_toArray, List.map_cons, List.map_nil]); first | done | rfl | (simp only [List.length_drop, List.length_take]; rfl)) ?_; (with_reducible refine (spec_EscNorm.calls k1 t198 t215 true _ A26.out).mono ?_); rintro e w52 ⟨rfl, hb⟩; refine ⟨_, rfl, ?_⟩; have n0_ := Aside0.mk (Kd.R_below (by (with_reducible repeat (first | apply Kd.R_alloc | apply Kd.R_drewN | apply Kd.R_drew)); exact HO_8.out) hb); have n1_ := Aside0.mk (Kd.R_below (by (with_reducible repeat (first | apply Kd.R_alloc | apply Kd.R_drewN | apply Kd.R_drew)); exact HO_9.out) hb); have n2_ := Aside0.mk (blk_below (g := gb195) (o := .cells #[.string a0_0, .slice A0_1 l0_1.length c0_1, .bool a0_2, .string a0_3] 27 (0, 0)) (by (with_reducible repeat (first | refine blk_drewN ?_ _ | refine blk_drew ?_ | refine blk_alloc ?_ _)); exact BK195.out) hb); have n3_ := Aside0.mk (blk_below (g := gb196) (o := .cells #[.string x197000_1, .slice none 0 0, .bool x197002_1, .string x197003_1] 27 (0, 0)) (by (with_reducible repeat (first | refine blk_drewN ?_ _ | refine blk_drew ?_ | refine blk_alloc ?_ _)); exact BK196.out) hb); have n4_ := Aside0.mk (below_step (by repeat (first | (with_reducible first | exact HB.out | apply below_alloc | apply pw_below_drewN | apply below_drew1 | refine below_set ?_ GE195.out | refine below_set ?_ GE196.out) | exact HB.out)) hb); clear HO_8; clear HO_9; clear BK195; clear BK196; clear HB; have HO_8 := n0_; have HO_9 := n1_; have BK195 := n2_; have BK196 := n3_; have HB := n4_; clear n0_ n1_ n2_ n3_ n4_; (try clear hb); (try clear hb2); (try clear hk); (try clear hi); obtain ⟨Ao53, co53, eo53⟩ := Kd.R_slice HO_8.out; subst eo53))
       have n0_ := Aside0.mk (Kd.R_drew HO_8.out)
       have n1_ := Aside0.mk (Kd.R_drew HO_9.out)
       have n2_ := Aside0.mk (blk_drew BK195.out)
       have n3_ := Aside0.mk (blk_drew BK196.out)
       have n4_ := Aside0.mk (below_drew1 HB.out)
       clear HO_8
       clear HO_9
       clear BK195
       clear BK196
       clear HB
       have HO_8 := n0_
       have HO_9 := n1_
       have BK195 := n2_
       have BK196 := n3_
       have HB := n4_
       clear n0_ n1_ n2_ n3_ n4_
       refine start_ (n := 9) (S := fun w' => w'.cell? ⟨gb195, 0, none⟩ = some (.string a0_0) ∧ w'.cell? ⟨gb195, 1, none⟩ = some (.slice A0_1 l0_1.length c0_1) ∧ w'.cell? ⟨gb195, 2, none⟩ = some (.bool a0_2) ∧ w'.cell? ⟨gb195, 3, none⟩ = some (.string a0_3)) (ds := []) #[false, false, false, false, false, false, false, false, false] (by kernel_rfl) rfl rfl ⟨(blk_cell BK195.out 0).trans rfl, (blk_cell BK195.out 1).trans rfl, (blk_cell BK195.out 2).trans rfl, (blk_cell BK195.out 3).trans rfl⟩ (fun hHeld => ?_); refine with_tabW spec_l1Way.tab12 spec_l1Way.bits12 (fun HT_ HW_ => ?_)
       generalize w52.drew = w54 at HO_8 HO_9 BK195 BK196 HB hHeld ⊢
       refine pure_ (i := 0) (N := some 54) (v := ?_) (a' := ?_) #[true, false, false, false, false, false, false, false, false] rfl rfl (any_of HT_.out (by kernel_rfl)) (fun _ _ _ h => h) (Or.inl ⟨by rfl, ?_⟩) ?_ ?_
       rotate_left
       ·intro w'
        go_simp
        with_reducible rfl
       rotate_left
       ·simp only [Act.put, List.setIfInBounds_toArray, List.set_cons_zero, List.set_cons_succ, i64_w, i32_w]
        rfl
       refine pure_ (i := 2) (N := some 56) (v := ?_) (a' := ?_) #[true, false, true, false, false, false, false, false, false] rfl rfl (any_of HT_.out (by kernel_rfl)) (fun _ _ _ h => h) (Or.inl ⟨by rfl, ?_⟩) ?_ ?_
       rotate_left
       ·intro w'
        go_simp
        with_reducible rfl
       rotate_left
       ·simp only [Act.put, List.setIfInBounds_toArray, List.set_cons_zero, List.set_cons_succ, i64_w, i32_w]
        rfl
       refine pure_ (i := 4) (N := some 58) (v := ?_) (a' := ?_) #[true, false, true, false, true, false, false, false, false] rfl rfl (any_of HT_.out (by kernel_rfl)) (fun _ _ _ h => h) (Or.inl ⟨by rfl, ?_⟩) ?_ ?_
       rotate_left
       ·intro w'
        go_simp
        with_reducible rfl
       rotate_left
       ·simp only [Act.put, List.setIfInBounds_toArray, List.set_cons_zero, List.set_cons_succ, i64_w, i32_w]
        rfl
       refine pure_ (i := 5) (N := some 59) (v := ?_) (a' := ?_) #[true, false, true, false, true, true, false, false, false] rfl rfl (any_of HT_.out (by kernel_rfl)) (fun _ _ _ h => h) (Or.inl ⟨by rfl, ?_⟩) ?_ ?_
       rotate_left
       ·intro w'
        go_simp
        with_reducible rfl
       rotate_left
       ·simp only [Act.put, List.setIfInBounds_toArray, List.set_cons_zero, List.set_cons_succ, i64_w, i32_w]
        rfl
       refine take_ (i := 1) (N := some 55) (v := ?_) (a' := ?_) #[true, true, true, false, true, true, false, false, false] rfl rfl (take_ofW HT_.out HW_.out (by kernel_rfl)) (fun _ _ _ h => h) (Or.inl ⟨by rfl, ?_⟩) hHeld ?_ ?_
       rotate_left
       ·rintro w' ⟨s0, s1, s2, s3⟩
        go_simp
        with_reducible rfl
       rotate_left
       ·simp only [Act.put, List.setIfInBounds_toArray, List.set_cons_zero, List.set_cons_succ, i64_w, i32_w]
        rfl
       refine join_ (σ := Value × Nat) 1 #[true, true, true, true, true, true, true, true, false] (fun s_ => [(57, s_.1), (15, .pointer (some ⟨s_.2, 0, none⟩)), (60, .agg #[.string a0_0, s_.1, .bool t199, .string t215])]) (fun s_ w' => (w'.cell? ⟨gb195, 0, none⟩ = some (.string a0_0) ∧ w'.cell? ⟨gb195, 1, none⟩ = some (.slice A0_1 l0_1.length c0_1) ∧ w'.cell? ⟨gb195, 2, none⟩ = some (.bool a0_2) ∧ w'.cell? ⟨gb195, 3, none⟩ = some (.string a0_3)) ∧ (Kd.R Kd.string 9 w' w.heap.size (fun k_ => some k_ ≠ (.slice Ao53 x8_1.length co53 : Value).ownBlock ∧ some k_ ≠ (.slice Ao51 t206.length co51 : Value).ownBlock) s_.1 t217) ∧ (Kd.R Kd.string 9 w' w.heap.size (fun k_ => some k_ ≠ (s_.1 : Value).ownBlock ∧ some k_ ≠ (.slice Ao51 t206.length co51 : Value).ownBlock) (.slice Ao53 x8_1.length co53) x8_1) ∧ (Kd.R Kd.string 9 w' w.heap.size (fun k_ => some k_ ≠ (s_.1 : Value).ownBlock ∧ some k_ ≠ (.slice Ao53 x8_1.length co53 : Value).ownBlock) (.slice Ao51 t206.length co51) t206) ∧ (w'.heap[gb195]? = some (.cells #[.string a0_0, .slice A0_1 l0_1.length c0_1, .bool a0_2, .string a0_3] 27 (0, 0))) ∧ (w'.heap[gb196]? = some (.cells #[.string x197000_1, .slice none 0 0, .bool x197002_1, .string x197003_1] 27 (0, 0))) ∧ (w'.heap[s_.2]? = some (.cells #[.string (⟨#[]⟩ : ByteArray), .slice none 0 0, .bool false, .string (⟨#[]⟩ : ByteArray)] 27 (0, 0))) ∧ (w.heap.size ≤ s_.2) ∧ (w.heap.size ≤ s_.2) ∧ (gb195 ≠ s_.2) ∧ (s_.2 ≠ gb195) ∧ (gb196 ≠ s_.2) ∧ (s_.2 ≠ gb196) ∧ (Below w.heap.size w w')) ?_ ?_
       rotate_left
       ·intro hCont
        refine two_ (i := 3) (j := 7) (Ni := some 57) (Nj := some 15) #[true, true, true, true, true, true, false, false, false] #[true, true, true, false, true, true, false, true, false] rfl rfl rfl rfl (two_of HT_.out (by kernel_rfl)) (by decide) (by decide) (fun K hK => ?_) (fun K hK => ?_)
        ·skip
         refine goes_ Try.func66 (by kernel_rfl) rfl #[.slice Ao53 x8_1.length co53] (by rfl) rfl rfl (by (try simp only [List.map_toArray, List.map_cons, List.map_nil]); first | done | rfl | (simp only [List.length_drop, List.length_take]; rfl)) ?_
         with_reducible refine (spec_PathClean.calls k1 _ _ x8_1 t217 _ ?side1 ?side2 A27.out).mono ?_
         (case side1 => repeat (first | exact (Kd.R_reads' HO_8.out).2.2 | (with_reducible refine Kd.C_alloc ?_ _) | (with_reducible refine Kd.C_drewN ?_ _) | (with_reducible refine Kd.C_drew ?_)))
         (case side2 => exact (Kd.R_reads' HO_8.out).2.1)
         rintro e w55 ⟨v218, rfl, ho0, hb⟩
         refine ⟨_, rfl, ?_⟩
         have n0_ := Aside0.mk (Kd.R_elder' (by (with_reducible repeat (first | apply Kd.R_alloc | apply Kd.R_drewN | apply Kd.R_drew)); exact HO_8.out) (Kd.R_base ho0) hb)
         have n1_ := Aside0.mk (Kd.R_elder' (by (with_reducible repeat (first | apply Kd.R_alloc | apply Kd.R_drewN | apply Kd.R_drew)); exact HO_9.out) (Kd.R_base ho0) hb)
         have n2_ := Aside0.mk (Kd.R_lower (Kd.R_new' (Kd.R_new' ho0 (Kd.R_lt (by (with_reducible repeat (first | apply Kd.R_alloc | apply Kd.R_drewN | apply Kd.R_drew)); exact HO_8.out))) (Kd.R_lt (by (with_reducible repeat (first | apply Kd.R_alloc | apply Kd.R_drewN | apply Kd.R_drew)); exact HO_9.out))) (below_size (by repeat (first | (with_reducible first | exact HB.out | apply below_alloc | apply pw_below_drewN | apply below_drew1 | refine below_set ?_ GE195.out | refine below_set ?_ GE196.out) | exact HB.out))))
         have n3_ := Aside0.mk (blk_below (g := gb195) (o := .cells #[.string a0_0, .slice A0_1 l0_1.length c0_1, .bool a0_2, .string a0_3] 27 (0, 0)) (by (with_reducible repeat (first | refine blk_drewN ?_ _ | refine blk_drew ?_ | refine blk_alloc ?_ _)); exact BK195.out) hb)
         have n4_ := Aside0.mk (blk_below (g := gb196) (o := .cells #[.string x197000_1, .slice none 0 0, .bool x197002_1, .string x197003_1] 27 (0, 0)) (by (with_reducible repeat (first | refine blk_drewN ?_ _ | refine blk_drew ?_ | refine blk_alloc ?_ _)); exact BK196.out) hb)
         have n5_ := Aside0.mk (below_step (by repeat (first | (with_reducible first | exact HB.out | apply below_alloc | apply pw_below_drewN | apply below_drew1 | refine below_set ?_ GE195.out | refine below_set ?_ GE196.out) | exact HB.out)) hb)
         clear HO_8
         clear HO_9
         clear BK195
         clear BK196
         clear HB
         have HO_8 := n0_
         have HO_9 := n1_
         have HO219 := n2_
         have BK195 := n3_
         have BK196 := n4_
         have HB := n5_
         clear n0_ n1_ n2_ n3_ n4_ n5_
         (try clear hb)
         (try clear hb2)
         (try clear hk)
         (try clear hi)
         (try clear ho0)
         obtain ⟨Ao56, co56, eo56⟩ := Kd.R_slice HO219.out
         (first | subst eo56 | (injection eo56 with f1_ f2_ f3_; have f4_ := f1_.symm; have f5_ := f3_.symm; clear f1_ f2_ f3_; subst f4_; subst f5_))
         refine hK.out _ _ ⟨(blk_cell BK195.out 0).trans rfl, (blk_cell BK195.out 1).trans rfl, (blk_cell BK195.out 2).trans rfl, (blk_cell BK195.out 3).trans rfl⟩ (fun hHeld => ?_)
         clear hK K
         refine norm_ (a' := ?_) ?_ ?_
         rotate_left
         ·show Act.put _ (some 57) _ = _
          simp only [Act.put, List.setIfInBounds_toArray, List.set_cons_zero, List.set_cons_succ, i64_w, i32_w]
          rfl
         refine pure_ (i := 6) (N := some 60) (v := ?_) (a' := ?_) #[true, true, true, true, true, true, true, false, false] rfl rfl (any_of HT_.out (by kernel_rfl)) (fun _ _ _ h => h) (Or.inl ⟨by rfl, ?_⟩) ?_ ?_
         rotate_left
         ·intro w'
          go_simp
          with_reducible rfl
         rotate_left
         ·simp only [Act.put, List.setIfInBounds_toArray, List.set_cons_zero, List.set_cons_succ, i64_w, i32_w]
          rfl
         refine one_ (i := 7) (N := some 15) #[true, true, true, true, true, true, true, true, false] rfl rfl (one_of HT_.out (by kernel_rfl)) (by decide) (fun K hK => ?_)
         refine box_step ?hg (N := 15) ?hd (cs := #[.string (⟨#[]⟩ : ByteArray), .slice none 0 0, .bool false, .string (⟨#[]⟩ : ByteArray)]) (t := 27) ?hr ?_; (case hd => rfl); (case hg => rfl); (case hr => first | (go_simp; done) | (go_simp; rfl))
         intro gb220 hg w57 hbox hb
         have n0_ := Aside0.mk (Kd.R_below (by (with_reducible repeat (first | apply Kd.R_alloc | apply Kd.R_drewN | apply Kd.R_drew)); exact HO_8.out) hb)
         have n1_ := Aside0.mk (Kd.R_below (by (with_reducible repeat (first | apply Kd.R_alloc | apply Kd.R_drewN | apply Kd.R_drew)); exact HO_9.out) hb)
         have n2_ := Aside0.mk (Kd.R_below (by (with_reducible repeat (first | apply Kd.R_alloc | apply Kd.R_drewN | apply Kd.R_drew)); exact HO219.out) hb)
         have n3_ := Aside0.mk (blk_below (g := gb195) (o := .cells #[.string a0_0, .slice A0_1 l0_1.length c0_1, .bool a0_2, .string a0_3] 27 (0, 0)) (by (with_reducible repeat (first | refine blk_drewN ?_ _ | refine blk_drew ?_ | refine blk_alloc ?_ _)); exact BK195.out) hb)
         have n4_ := Aside0.mk (blk_below (g := gb196) (o := .cells #[.string x197000_1, .slice none 0 0, .bool x197002_1, .string x197003_1] 27 (0, 0)) (by (with_reducible repeat (first | refine blk_drewN ?_ _ | refine blk_drew ?_ | refine blk_alloc ?_ _)); exact BK196.out) hb)
         have n5_ := Aside0.mk (below_step (by repeat (first | (with_reducible first | exact HB.out | apply below_alloc | apply pw_below_drewN | apply below_drew1 | refine below_set ?_ GE195.out | refine below_set ?_ GE196.out) | exact HB.out)) hb)
         have n6_ := Aside0.mk (hbox)
         have n7_ := Aside0.mk ((by rw [hg]; exact (below_size (by repeat (first | (with_reducible first | exact HB.out | apply below_alloc | apply pw_below_drewN | apply below_drew1 | refine below_set ?_ GE195.out | refine below_set ?_ GE196.out) | exact HB.out))) : w.heap.size ≤ gb220))
         have n8_ := Aside0.mk ((by rw [hg]; exact (below_size (by repeat (first | (with_reducible first | exact HB.out | apply below_alloc | apply pw_below_drewN | apply below_drew1 | refine below_set ?_ GE195.out | refine below_set ?_ GE196.out) | exact HB.out))) : w.heap.size ≤ gb220))
         have n9_ := Aside0.mk ((by rw [hg]; exact Nat.ne_of_lt (blk_lt (g := gb195) (o := .cells #[.string a0_0, .slice A0_1 l0_1.length c0_1, .bool a0_2, .string a0_3] 27 (0, 0)) (by (with_reducible repeat (first | refine blk_drewN ?_ _ | refine blk_drew ?_ | refine blk_alloc ?_ _)); exact BK195.out)) : gb195 ≠ gb220))
         have n10_ := Aside0.mk ((by rw [hg]; exact Nat.ne_of_gt (blk_lt (g := gb195) (o := .cells #[.string a0_0, .slice A0_1 l0_1.length c0_1, .bool a0_2, .string a0_3] 27 (0, 0)) (by (with_reducible repeat (first | refine blk_drewN ?_ _ | refine blk_drew ?_ | refine blk_alloc ?_ _)); exact BK195.out)) : gb220 ≠ gb195))
         have n11_ := Aside0.mk ((by rw [hg]; exact Nat.ne_of_lt (blk_lt (g := gb196) (o := .cells #[.string x197000_1, .slice none 0 0, .bool x197002_1, .string x197003_1] 27 (0, 0)) (by (with_reducible repeat (first | refine blk_drewN ?_ _ | refine blk_drew ?_ | refine blk_alloc ?_ _)); exact BK196.out)) : gb196 ≠ gb220))
         have n12_ := Aside0.mk ((by rw [hg]; exact Nat.ne_of_gt (blk_lt (g := gb196) (o := .cells #[.string x197000_1, .slice none 0 0, .bool x197002_1, .string x197003_1] 27 (0, 0)) (by (with_reducible repeat (first | refine blk_drewN ?_ _ | refine blk_drew ?_ | refine blk_alloc ?_ _)); exact BK196.out)) : gb220 ≠ gb196))
         clear HO_8
         clear HO_9
         clear HO219
         clear BK195
         clear BK196
         clear HB
         have HO_8 := n0_
         have HO_9 := n1_
         have HO219 := n2_
         have BK195 := n3_
         have BK196 := n4_
         have HB := n5_
         have BK220 := n6_
         have GW220 := n7_
         have GE220 := n8_
         have NB195_220 := n9_
         have NB220_195 := n10_
         have NB196_220 := n11_
         have NB220_196 := n12_
         clear n0_ n1_ n2_ n3_ n4_ n5_ n6_ n7_ n8_ n9_ n10_ n11_ n12_
         clear hb hbox hg
         refine hK.out _ _ ⟨(blk_cell BK195.out 0).trans rfl, (blk_cell BK195.out 1).trans rfl, (blk_cell BK195.out 2).trans rfl, (blk_cell BK195.out 3).trans rfl⟩ (fun hHeld => ?_)
         clear hK K
         refine norm_ (a' := ?_) ?_ ?_
         rotate_left
         ·show Act.put _ (some 15) _ = _
          simp only [Act.put, List.setIfInBounds_toArray, List.set_cons_zero, List.set_cons_succ, i64_w, i32_w]
          rfl
         exact norm_ (by simp only [putAll, Act.put, List.setIfInBounds_toArray, List.set_cons_zero, List.set_cons_succ]) (hCont (.slice Ao56 t217.length co56, gb220) _ ⟨hHeld, (by (with_reducible repeat (first | apply Kd.R_alloc | apply Kd.R_drewN | apply Kd.R_drew)); exact Kd.R_mono HO219.out (fun _ hk => ⟨hk.1.2, hk.2⟩)), (by (with_reducible repeat (first | apply Kd.R_alloc | apply Kd.R_drewN | apply Kd.R_drew)); exact Kd.R_mono HO_8.out (fun _ hk => ⟨hk.2, hk.1⟩)), (by (with_reducible repeat (first | apply Kd.R_alloc | apply Kd.R_drewN | apply Kd.R_drew)); exact Kd.R_mono HO_9.out (fun _ hk => ⟨hk.2, hk.1⟩)), (by (with_reducible repeat (first | refine blk_drewN ?_ _ | refine blk_drew ?_ | refine blk_alloc ?_ _)); exact BK195.out), (by (with_reducible repeat (first | refine blk_drewN ?_ _ | refine blk_drew ?_ | refine blk_alloc ?_ _)); exact BK196.out), (by (with_reducible repeat (first | refine blk_drewN ?_ _ | refine blk_drew ?_ | refine blk_alloc ?_ _)); exact BK220.out), GW220.out, GE220.out, NB195_220.out, NB220_195.out, NB196_220.out, NB220_196.out, (by repeat (first | (with_reducible first | exact HB.out | apply below_alloc | apply pw_below_drewN | apply below_drew1 | refine below_set ?_ GE195.out | refine below_set ?_ GE196.out | refine below_set ?_ GE220.out) | exact HB.out))⟩)
        ·skip
         refine box_step ?hg (N := 15) ?hd (cs := #[.string (⟨#[]⟩ : ByteArray), .slice none 0 0, .bool false, .string (⟨#[]⟩ : ByteArray)]) (t := 27) ?hr ?_; (case hd => rfl); (case hg => rfl); (case hr => first | (go_simp; done) | (go_simp; rfl))
         intro gb220 hg w55 hbox hb
         have n0_ := Aside0.mk (Kd.R_below (by (with_reducible repeat (first | apply Kd.R_alloc | apply Kd.R_drewN | apply Kd.R_drew)); exact HO_8.out) hb)
         have n1_ := Aside0.mk (Kd.R_below (by (with_reducible repeat (first | apply Kd.R_alloc | apply Kd.R_drewN | apply Kd.R_drew)); exact HO_9.out) hb)
         have n2_ := Aside0.mk (blk_below (g := gb195) (o := .cells #[.string a0_0, .slice A0_1 l0_1.length c0_1, .bool a0_2, .string a0_3] 27 (0, 0)) (by (with_reducible repeat (first | refine blk_drewN ?_ _ | refine blk_drew ?_ | refine blk_alloc ?_ _)); exact BK195.out) hb)
         have n3_ := Aside0.mk (blk_below (g := gb196) (o := .cells #[.string x197000_1, .slice none 0 0, .bool x197002_1, .string x197003_1] 27 (0, 0)) (by (with_reducible repeat (first | refine blk_drewN ?_ _ | refine blk_drew ?_ | refine blk_alloc ?_ _)); exact BK196.out) hb)
         have n4_ := Aside0.mk (below_step (by repeat (first | (with_reducible first | exact HB.out | apply below_alloc | apply pw_below_drewN | apply below_drew1 | refine below_set ?_ GE195.out | refine below_set ?_ GE196.out) | exact HB.out)) hb)
         have n5_ := Aside0.mk (hbox)
         have n6_ := Aside0.mk ((by rw [hg]; exact (below_size (by repeat (first | (with_reducible first | exact HB.out | apply below_alloc | apply pw_below_drewN | apply below_drew1 | refine below_set ?_ GE195.out | refine below_set ?_ GE196.out) | exact HB.out))) : w.heap.size ≤ gb220))
         have n7_ := Aside0.mk ((by rw [hg]; exact (below_size (by repeat (first | (with_reducible first | exact HB.out | apply below_alloc | apply pw_below_drewN | apply below_drew1 | refine below_set ?_ GE195.out | refine below_set ?_ GE196.out) | exact HB.out))) : w.heap.size ≤ gb220))
         have n8_ := Aside0.mk ((by rw [hg]; exact Nat.ne_of_lt (blk_lt (g := gb195) (o := .cells #[.string a0_0, .slice A0_1 l0_1.length c0_1, .bool a0_2, .string a0_3] 27 (0, 0)) (by (with_reducible repeat (first | refine blk_drewN ?_ _ | refine blk_drew ?_ | refine blk_alloc ?_ _)); exact BK195.out)) : gb195 ≠ gb220))
         have n9_ := Aside0.mk ((by rw [hg]; exact Nat.ne_of_gt (blk_lt (g := gb195) (o := .cells #[.string a0_0, .slice A0_1 l0_1.length c0_1, .bool a0_2, .string a0_3] 27 (0, 0)) (by (with_reducible repeat (first | refine blk_drewN ?_ _ | refine blk_drew ?_ | refine blk_alloc ?_ _)); exact BK195.out)) : gb220 ≠ gb195))
         have n10_ := Aside0.mk ((by rw [hg]; exact Nat.ne_of_lt (blk_lt (g := gb196) (o := .cells #[.string x197000_1, .slice none 0 0, .bool x197002_1, .string x197003_1] 27 (0, 0)) (by (with_reducible repeat (first | refine blk_drewN ?_ _ | refine blk_drew ?_ | refine blk_alloc ?_ _)); exact BK196.out)) : gb196 ≠ gb220))
         have n11_ := Aside0.mk ((by rw [hg]; exact Nat.ne_of_gt (blk_lt (g := gb196) (o := .cells #[.string x197000_1, .slice none 0 0, .bool x197002_1, .string x197003_1] 27 (0, 0)) (by (with_reducible repeat (first | refine blk_drewN ?_ _ | refine blk_drew ?_ | refine blk_alloc ?_ _)); exact BK196.out)) : gb220 ≠ gb196))
         clear HO_8
         clear HO_9
         clear BK195
         clear BK196
         clear HB
         have HO_8 := n0_
         have HO_9 := n1_
         have BK195 := n2_
         have BK196 := n3_
         have HB := n4_
         have BK220 := n5_
         have GW220 := n6_
         have GE220 := n7_
         have NB195_220 := n8_
         have NB220_195 := n9_
         have NB196_220 := n10_
         have NB220_196 := n11_
         clear n0_ n1_ n2_ n3_ n4_ n5_ n6_ n7_ n8_ n9_ n10_ n11_
         clear hb hbox hg
         refine hK.out _ _ ⟨(blk_cell BK195.out 0).trans rfl, (blk_cell BK195.out 1).trans rfl, (blk_cell BK195.out 2).trans rfl, (blk_cell BK195.out 3).trans rfl⟩ (fun hHeld => ?_)
         clear hK K
         refine norm_ (a' := ?_) ?_ ?_
         rotate_left
         ·show Act.put _ (some 15) _ = _
          simp only [Act.put, List.setIfInBounds_toArray, List.set_cons_zero, List.set_cons_succ, i64_w, i32_w]
          rfl
         refine one_ (i := 3) (N := some 57) #[true, true, true, true, true, true, false, true, false] rfl rfl (one_of HT_.out (by kernel_rfl)) (by decide) (fun K hK => ?_)
         refine goes_ Try.func66 (by kernel_rfl) rfl #[.slice Ao53 x8_1.length co53] (by rfl) rfl rfl (by (try simp only [List.map_toArray, List.map_cons, List.map_nil]); first | done | rfl | (simp only [List.length_drop, List.length_take]; rfl)) ?_
         with_reducible refine (spec_PathClean.calls k1 _ _ x8_1 t217 _ ?side1 ?side2 A27.out).mono ?_
         (case side1 => repeat (first | exact (Kd.R_reads' HO_8.out).2.2 | (with_reducible refine Kd.C_alloc ?_ _) | (with_reducible refine Kd.C_drewN ?_ _) | (with_reducible refine Kd.C_drew ?_)))
         (case side2 => exact (Kd.R_reads' HO_8.out).2.1)
         rintro e w56 ⟨v218, rfl, ho0, hb⟩
         refine ⟨_, rfl, ?_⟩
         have n0_ := Aside0.mk (Kd.R_elder' (by (with_reducible repeat (first | apply Kd.R_alloc | apply Kd.R_drewN | apply Kd.R_drew)); exact HO_8.out) (Kd.R_base ho0) hb)
         have n1_ := Aside0.mk (Kd.R_elder' (by (with_reducible repeat (first | apply Kd.R_alloc | apply Kd.R_drewN | apply Kd.R_drew)); exact HO_9.out) (Kd.R_base ho0) hb)
         have n2_ := Aside0.mk (Kd.R_lower (Kd.R_new' (Kd.R_new' ho0 (Kd.R_lt (by (with_reducible repeat (first | apply Kd.R_alloc | apply Kd.R_drewN | apply Kd.R_drew)); exact HO_8.out))) (Kd.R_lt (by (with_reducible repeat (first | apply Kd.R_alloc | apply Kd.R_drewN | apply Kd.R_drew)); exact HO_9.out))) (below_size (by repeat (first | (with_reducible first | exact HB.out | apply below_alloc | apply pw_below_drewN | apply below_drew1 | refine below_set ?_ GE195.out | refine below_set ?_ GE196.out | refine below_set ?_ GE220.out) | exact HB.out))))
         have n3_ := Aside0.mk (blk_below (g := gb195) (o := .cells #[.string a0_0, .slice A0_1 l0_1.length c0_1, .bool a0_2, .string a0_3] 27 (0, 0)) (by (with_reducible repeat (first | refine blk_drewN ?_ _ | refine blk_drew ?_ | refine blk_alloc ?_ _)); exact BK195.out) hb)
         have n4_ := Aside0.mk (blk_below (g := gb196) (o := .cells #[.string x197000_1, .slice none 0 0, .bool x197002_1, .string x197003_1] 27 (0, 0)) (by (with_reducible repeat (first | refine blk_drewN ?_ _ | refine blk_drew ?_ | refine blk_alloc ?_ _)); exact BK196.out) hb)
         have n5_ := Aside0.mk (blk_below (g := gb220) (o := .cells #[.string (⟨#[]⟩ : ByteArray), .slice none 0 0, .bool false, .string (⟨#[]⟩ : ByteArray)] 27 (0, 0)) (by (with_reducible repeat (first | refine blk_drewN ?_ _ | refine blk_drew ?_ | refine blk_alloc ?_ _)); exact BK220.out) hb)
         have n6_ := Aside0.mk (below_step (by repeat (first | (with_reducible first | exact HB.out | apply below_alloc | apply pw_below_drewN | apply below_drew1 | refine below_set ?_ GE195.out | refine below_set ?_ GE196.out | refine below_set ?_ GE220.out) | exact HB.out)) hb)
         clear HO_8
         clear HO_9
         clear BK195
         clear BK196
         clear BK220
         clear HB
         have HO_8 := n0_
         have HO_9 := n1_
         have HO219 := n2_
         have BK195 := n3_
         have BK196 := n4_
         have BK220 := n5_
         have HB := n6_
         clear n0_ n1_ n2_ n3_ n4_ n5_ n6_
         (try clear hb)
         (try clear hb2)
         (try clear hk)
         (try clear hi)
         (try clear ho0)
         obtain ⟨Ao57, co57, eo57⟩ := Kd.R_slice HO219.out
         (first | subst eo57 | (injection eo57 with f1_ f2_ f3_; have f4_ := f1_.symm; have f5_ := f3_.symm; clear f1_ f2_ f3_; subst f4_; subst f5_))
         refine hK.out _ _ ⟨(blk_cell BK195.out 0).trans rfl, (blk_cell BK195.out 1).trans rfl, (blk_cell BK195.out 2).trans rfl, (blk_cell BK195.out 3).trans rfl⟩ (fun hHeld => ?_)
         clear hK K
         refine norm_ (a' := ?_) ?_ ?_
         rotate_left
         ·show Act.put _ (some 57) _ = _
          simp only [Act.put, List.setIfInBounds_toArray, List.set_cons_zero, List.set_cons_succ, i64_w, i32_w]
          rfl
         refine pure_ (i := 6) (N := some 60) (v := ?_) (a' := ?_) #[true, true, true, true, true, true, true, true, false] rfl rfl (any_of HT_.out (by kernel_rfl)) (fun _ _ _ h => h) (Or.inl ⟨by rfl, ?_⟩) ?_ ?_
         rotate_left
         ·intro w'
          go_simp
          with_reducible rfl
         rotate_left
         ·simp only [Act.put, List.setIfInBounds_toArray, List.set_cons_zero, List.set_cons_succ, i64_w, i32_w]
          rfl
         exact norm_ (by simp only [putAll, Act.put, List.setIfInBounds_toArray, List.set_cons_zero, List.set_cons_succ]) (hCont (.slice Ao57 t217.length co57, gb220) _ ⟨hHeld, (by (with_reducible repeat (first | apply Kd.R_alloc | apply Kd.R_drewN | apply Kd.R_drew)); exact Kd.R_mono HO219.out (fun _ hk => ⟨hk.1.2, hk.2⟩)), (by (with_reducible repeat (first | apply Kd.R_alloc | apply Kd.R_drewN | apply Kd.R_drew)); exact Kd.R_mono HO_8.out (fun _ hk => ⟨hk.2, hk.1⟩)), (by (with_reducible repeat (first | apply Kd.R_alloc | apply Kd.R_drewN | apply Kd.R_drew)); exact Kd.R_mono HO_9.out (fun _ hk => ⟨hk.2, hk.1⟩)), (by (with_reducible repeat (first | refine blk_drewN ?_ _ | refine blk_drew ?_ | refine blk_alloc ?_ _)); exact BK195.out), (by (with_reducible repeat (first | refine blk_drewN ?_ _ | refine blk_drew ?_ | refine blk_alloc ?_ _)); exact BK196.out), (by (with_reducible repeat (first | refine blk_drewN ?_ _ | refine blk_drew ?_ | refine blk_alloc ?_ _)); exact BK220.out), GW220.out, GE220.out, NB195_220.out, NB220_195.out, NB196_220.out, NB220_196.out, (by repeat (first | (with_reducible first | exact HB.out | apply below_alloc | apply pw_below_drewN | apply below_drew1 | refine below_set ?_ GE195.out | refine below_set ?_ GE196.out | refine below_set ?_ GE220.out) | exact HB.out))⟩)
       rintro ⟨v218, gb220⟩ w58 ⟨hS_, h0_, h1_, h2_, h3_, h4_, h5_, h6_, h7_, h8_, h9_, h10_, h11_, h12_⟩
       have n0_ : Aside0 (Kd.R Kd.string 9 w58 w.heap.size (fun k_ => some k_ ≠ (.slice Ao53 x8_1.length co53 : Value).ownBlock ∧ some k_ ≠ (.slice Ao51 t206.length co51 : Value).ownBlock) v218 t217) := ⟨h0_⟩
       have n1_ : Aside0 (Kd.R Kd.string 9 w58 w.heap.size (fun k_ => some k_ ≠ (v218 : Value).ownBlock ∧ some k_ ≠ (.slice Ao51 t206.length co51 : Value).ownBlock) (.slice Ao53 x8_1.length co53) x8_1) := ⟨h1_⟩
       have n2_ : Aside0 (Kd.R Kd.string 9 w58 w.heap.size (fun k_ => some k_ ≠ (v218 : Value).ownBlock ∧ some k_ ≠ (.slice Ao53 x8_1.length co53 : Value).ownBlock) (.slice Ao51 t206.length co51) t206) := ⟨h2_⟩
       have n3_ : Aside0 (w58.heap[gb195]? = some (.cells #[.string a0_0, .slice A0_1 l0_1.length c0_1, .bool a0_2, .string a0_3] 27 (0, 0))) := ⟨h3_⟩
       have n4_ : Aside0 (w58.heap[gb196]? = some (.cells #[.string x197000_1, .slice none 0 0, .bool x197002_1, .string x197003_1] 27 (0, 0))) := ⟨h4_⟩
       have n5_ : Aside0 (w58.heap[gb220]? = some (.cells #[.string (⟨#[]⟩ : ByteArray), .slice none 0 0, .bool false, .string (⟨#[]⟩ : ByteArray)] 27 (0, 0))) := ⟨h5_⟩
       have n6_ : Aside0 (w.heap.size ≤ gb220) := ⟨h6_⟩
       have n7_ : Aside0 (w.heap.size ≤ gb220) := ⟨h7_⟩
       have n8_ : Aside0 (gb195 ≠ gb220) := ⟨h8_⟩
       have n9_ : Aside0 (gb220 ≠ gb195) := ⟨h9_⟩
       have n10_ : Aside0 (gb196 ≠ gb220) := ⟨h10_⟩
       have n11_ : Aside0 (gb220 ≠ gb196) := ⟨h11_⟩
       have n12_ : Aside0 (Below w.heap.size w w58) := ⟨h12_⟩
       clear HO_8
       clear HO_9
       clear BK195
       clear BK196
       clear HB
       clear h0_ h1_ h2_ h3_ h4_ h5_ h6_ h7_ h8_ h9_ h10_ h11_ h12_
       have HO219 := n0_
       have HO_8 := n1_
       have HO_9 := n2_
       have BK195 := n3_
       have BK196 := n4_
       have BK220 := n5_
       have GW220 := n6_
       have GE220 := n7_
       have NB195_220 := n8_
       have NB220_195 := n9_
       have NB196_220 := n10_
       have NB220_196 := n11_
       have HB := n12_
       clear n0_ n1_ n2_ n3_ n4_ n5_ n6_ n7_ n8_ n9_ n10_ n11_ n12_
       have hHeld : w58.cell? ⟨gb195, 0, none⟩ = some (.string a0_0) ∧ w58.cell? ⟨gb195, 1, none⟩ = some (.slice A0_1 l0_1.length c0_1) ∧ w58.cell? ⟨gb195, 2, none⟩ = some (.bool a0_2) ∧ w58.cell? ⟨gb195, 3, none⟩ = some (.string a0_3) := hS_
       obtain ⟨Ao59, co59, eo59⟩ := Kd.R_slice HO219.out
       (first | subst eo59 | (injection eo59 with f1_ f2_ f3_; have f4_ := f1_.symm; have f5_ := f3_.symm; clear f1_ f2_ f3_; subst f4_; subst f5_))
       refine norm_ (a' := ?_) ?_ ?_
       rotate_left
       ·simp only [putAll, Act.put, List.setIfInBounds_toArray, List.set_cons_zero, List.set_cons_succ]
        rfl
       refine one_ (i := 8) (N := none) #[true, true, true, true, true, true, true, true, true] rfl rfl (one_of HT_.out (by kernel_rfl)) (by decide) (fun K hK => ?_)
       have hs60 : w58.cell? ⟨gb220, 0, none⟩ = some (.string (⟨#[]⟩ : ByteArray)) := (blk_cell BK220.out 0).trans rfl
       have hfs60 := blk_frozen BK220.out 0
       have hns60_0 := NB195_220.out
       have hns60_1 := NB196_220.out
       have hms60_0 := NB220_195.out
       have hms60_1 := NB220_196.out
       have hs61 : w58.cell? ⟨gb220, 1, none⟩ = some (.slice none 0 0) := (blk_cell BK220.out 1).trans rfl
       have hfs61 := blk_frozen BK220.out 1
       have hns61_0 := NB195_220.out
       have hns61_1 := NB196_220.out
       have hms61_0 := NB220_195.out
       have hms61_1 := NB220_196.out
       have hs62 : w58.cell? ⟨gb220, 2, none⟩ = some (.bool false) := (blk_cell BK220.out 2).trans rfl
       have hfs62 := blk_frozen BK220.out 2
       have hns62_0 := NB195_220.out
       have hns62_1 := NB196_220.out
       have hms62_0 := NB220_195.out
       have hms62_1 := NB220_196.out
       have hs63 : w58.cell? ⟨gb220, 3, none⟩ = some (.string (⟨#[]⟩ : ByteArray)) := (blk_cell BK220.out 3).trans rfl
       have hfs63 := blk_frozen BK220.out 3
       have hns63_0 := NB195_220.out
       have hns63_1 := NB196_220.out
       have hms63_0 := NB220_195.out
       have hms63_1 := NB220_196.out
       refine skip_ (w1 := ?_) (by rfl) rfl ?_ ?_
       rotate_left
       ·go_simp
        rfl
       refine hK.out _ _ ⟨((cell_far (p := ⟨gb220, _, none⟩) NB195_220.out _).trans (((cell_far (p := ⟨gb220, _, none⟩) NB195_220.out _).trans (((cell_far (p := ⟨gb220, _, none⟩) NB195_220.out _).trans (((cell_far (p := ⟨gb220, _, none⟩) NB195_220.out _).trans (hHeld.1)))))))), ((cell_far (p := ⟨gb220, _, none⟩) NB195_220.out _).trans (((cell_far (p := ⟨gb220, _, none⟩) NB195_220.out _).trans (((cell_far (p := ⟨gb220, _, none⟩) NB195_220.out _).trans (((cell_far (p := ⟨gb220, _, none⟩) NB195_220.out _).trans (hHeld.2.1)))))))), ((cell_far (p := ⟨gb220, _, none⟩) NB195_220.out _).trans (((cell_far (p := ⟨gb220, _, none⟩) NB195_220.out _).trans (((cell_far (p := ⟨gb220, _, none⟩) NB195_220.out _).trans (((cell_far (p := ⟨gb220, _, none⟩) NB195_220.out _).trans (hHeld.2.2.1)))))))), ((cell_far (p := ⟨gb220, _, none⟩) NB195_220.out _).trans (((cell_far (p := ⟨gb220, _, none⟩) NB195_220.out _).trans (((cell_far (p := ⟨gb220, _, none⟩) NB195_220.out _).trans (((cell_far (p := ⟨gb220, _, none⟩) NB195_220.out _).trans (hHeld.2.2.2))))))))⟩ (fun hHeld => ?_)
       clear hK K
       refine done_ (done_of HT_.out (by kernel_rfl)) ?_
       have hnb64 := NB220_195.out
       have hnc64 := NB195_220.out
       have hnb65 := NB220_196.out
       have hnc65 := NB196_220.out
       have hcz66_0 : w58.cell? ⟨gb220, 0, none⟩ = some (.string (⟨#[]⟩ : ByteArray)) := (blk_cell BK220.out 0).trans rfl
       have hcz66_1 : w58.cell? ⟨gb220, 1, none⟩ = some (.slice none 0 0) := (blk_cell BK220.out 1).trans rfl
       have hcz66_2 : w58.cell? ⟨gb220, 2, none⟩ = some (.bool false) := (blk_cell BK220.out 2).trans rfl
       have hcz66_3 : w58.cell? ⟨gb220, 3, none⟩ = some (.string (⟨#[]⟩ : ByteArray)) := (blk_cell BK220.out 3).trans rfl
       have hfz66_0 := blk_frozen BK220.out 0
       have hfz66_1 := blk_frozen BK220.out 1
       have hfz66_2 := blk_frozen BK220.out 2
       have hfz66_3 := blk_frozen BK220.out 3
       try go_wp2_with (first | (go_at_call 11; (with_reducible refine (spec_AddrOk.calls k1 a0_0 _ _ t217 t199 t215 false _ ?side1 ?side2 A29.out).mono ?_); (case side1 => refine (Kd.R_reads' (e := 9) (base := w.heap.size) (ok := fun k_ => (some k_ ≠ (.slice Ao53 x8_1.length co53 : Value).ownBlock ∧ some k_ ≠ (.slice Ao51 t206.length co51 : Value).ownBlock)) (n := t217.length) (c := co59) ?_).2.2; exact (by (with_reducible repeat (first | apply Kd.R_alloc | apply Kd.R_drewN | apply Kd.R_drew)); exact (Kd.R_mono (Kd.R_far (p := ⟨gb220, 3, none⟩) (Kd.R_far (p := ⟨gb220, 2, none⟩) (Kd.R_far (p := ⟨gb220, 1, none⟩) (Kd.R_far (p := ⟨gb220, 0, none⟩) (Kd.R_types HO219.out BK220.out (by decide)) (fun _ hk => hk.2) (.string a0_0)) (fun _ hk => hk.2) (.slice Ao59 t217.length co59)) (fun _ hk => hk.2) (.bool t199)) (fun _ hk => hk.2) (.string t215)) (fun _ h_ => h_.1)))); (case side2 => exact (Kd.R_reads' HO219.out).2.1); rintro e w67 ⟨rfl, hb⟩; have n0_ := Aside0.mk (Kd.R_below (by (with_reducible repeat (first | apply Kd.R_alloc | apply Kd.R_drewN | apply Kd.R_drew)); exact (Kd.R_mono (Kd.R_far (p := ⟨gb220, 3, none⟩) (Kd.R_far (p := ⟨gb220, 2, none⟩) (Kd.R_far (p := ⟨gb220, 1, none⟩) (Kd.R_far (p := ⟨gb220, 0, none⟩) (Kd.R_types HO_8.out BK220.out (by decide)) (fun _ hk => hk.2) (.string a0_0)) (fun _ hk => hk.2) (.slice Ao59 t217.length co59)) (fun _ hk => hk.2) (.bool t199)) (fun _ hk => hk.2) (.string t215)) (fun _ h_ => h_.1))) hb); have n1_ := Aside0.mk (Kd.R_below (by (with_reducible repeat (first | apply Kd.R_alloc | apply Kd.R_drewN | apply Kd.R_drew)); exact (Kd.R_mono (Kd.R_far (p := ⟨gb220, 3, none⟩) (Kd.R_far (p := ⟨gb220, 2, none⟩) (Kd.R_far (p := ⟨gb220, 1, none⟩) (Kd.R_far (p := ⟨gb220, 0, none⟩) (Kd.R_types HO_9.out BK220.out (by decide)) (fun _ hk => hk.2) (.string a0_0)) (fun _ hk => hk.2) (.slice Ao59 t217.length co59)) (fun _ hk => hk.2) (.bool t199)) (fun _ hk => hk.2) (.string t215)) (fun _ h_ => h_.1))) hb); have n2_ := Aside0.mk (Kd.R_below (by (with_reducible repeat (first | apply Kd.R_alloc | apply Kd.R_drewN | apply Kd.R_drew)); exact (Kd.R_mono (Kd.R_far (p := ⟨gb220, 3, none⟩) (Kd.R_far (p := ⟨gb220, 2, none⟩) (Kd.R_far (p := ⟨gb220, 1, none⟩) (Kd.R_far (p := ⟨gb220, 0, none⟩) (Kd.R_types HO219.out BK220.out (by decide)) (fun _ hk => hk.2) (.string a0_0)) (fun _ hk => hk.2) (.slice Ao59 t217.length co59)) (fun _ hk => hk.2) (.bool t199)) (fun _ hk => hk.2) (.string t215)) (fun _ h_ => h_.1))) hb); have n3_ := Aside0.mk (blk_below (g := gb195) (o := .cells #[.string a0_0, .slice A0_1 l0_1.length c0_1, .bool a0_2, .string a0_3] 27 (0, 0)) (by (with_reducible repeat (first | refine blk_drewN ?_ _ | refine blk_drew ?_ | refine blk_alloc ?_ _)); refine blk_far ?_ NB195_220.out _; (with_reducible repeat (first | refine blk_drewN ?_ _ | refine blk_drew ?_ | refine blk_alloc ?_ _)); refine blk_far ?_ NB195_220.out _; (with_reducible repeat (first | refine blk_drewN ?_ _ | refine blk_drew ?_ | refine blk_alloc ?_ _)); refine blk_far ?_ NB195_220.out _; (with_reducible repeat (first | refine blk_drewN ?_ _ | refine blk_drew ?_ | refine blk_alloc ?_ _)); refine blk_far ?_ NB195_220.out _; (with_reducible repeat (first | refine blk_drewN ?_ _ | refine blk_drew ?_ | refine blk_alloc ?_ _)); exact BK195.out) hb); have n4_ := Aside0.mk (blk_below (g := gb196) (o := .cells #[.string x197000_1, .slice none 0 0, .bool x197002_1, .string x197003_1] 27 (0, 0)) (by (with_reducible repeat (first | refine blk_drewN ?_ _ | refine blk_drew ?_ | refine blk_alloc ?_ _)); refine blk_far ?_ NB196_220.out _; (with_reducible repeat (first | refine blk_drewN ?_ _ | refine blk_drew ?_ | refine blk_alloc ?_ _)); refine blk_far ?_ NB196_220.out _; (with_reducible repeat (first | refine blk_drewN ?_ _ | refine blk_drew ?_ | refine blk_alloc ?_ _)); refine blk_far ?_ NB196_220.out _; (with_reducible repeat (first | refine blk_drewN ?_ _ | refine blk_drew ?_ | refine blk_alloc ?_ _)); refine blk_far ?_ NB196_220.out _; (with_reducible repeat (first | refine blk_drewN ?_ _ | refine blk_drew ?_ | refine blk_alloc ?_ _)); exact BK196.out) hb); have n5_ := Aside0.mk (blk_below (g := gb220) (o := .cells #[.string a0_0, .slice Ao59 t217.length co59, .bool t199, .string t215] 27 (0, 0)) (by (with_reducible repeat (first | refine blk_drewN ?_ _ | refine blk_drew ?_ | refine blk_alloc ?_ _)); refine blk_put (cs := #[.string a0_0, .slice Ao59 t217.length co59, .bool t199, .string (⟨#[]⟩ : ByteArray)]) ?_ 3 _ rfl; (with_reducible repeat (first | refine blk_drewN ?_ _ | refine blk_drew ?_ | refine blk_alloc ?_ _)); refine blk_put (cs := #[.string a0_0, .slice Ao59 t217.length co59, .bool false, .string (⟨#[]⟩ : ByteArray)]) ?_ 2 _ rfl; (with_reducible repeat (first | refine blk_drewN ?_ _ | refine blk_drew ?_ | refine blk_alloc ?_ _)); refine blk_put (cs := #[.string a0_0, .slice none 0 0, .bool false, .string (⟨#[]⟩ : ByteArray)]) ?_ 1 _ rfl; (with_reducible repeat (first | refine blk_drewN ?_ _ | refine blk_drew ?_ | refine blk_alloc ?_ _)); refine blk_put (cs := #[.string (⟨#[]⟩ : ByteArray), .slice none 0 0, .bool false, .string (⟨#[]⟩ : ByteArray)]) ?_ 0 _ rfl; (with_reducible repeat (first | refine blk_drewN ?_ _ | refine blk_drew ?_ | refine blk_alloc ?_ _)); exact BK220.out) hb); have n6_ := Aside0.mk (below_step (by repeat (first | (with_reducible first | exact HB.out | apply below_alloc | apply pw_below_drewN | apply below_drew1 | refine below_set ?_ GE195.out | refine below_set ?_ GE196.out | refine below_set ?_ GE220.out) | exact HB.out)) hb); clear HO_8; clear HO_9; clear HO219; clear BK195; clear BK196; clear BK220; clear HB; have HO_8 := n0_; have HO_9 := n1_; have HO219 := n2_; have BK195 := n3_; have BK196 := n4_; have BK220 := n5_; have HB := n6_; clear n0_ n1_ n2_ n3_ n4_ n5_ n6_; (try clear hb); (try clear hb2); (try clear hk); (try clear hi); have hnb68 := NB196_195.out; have hnc68 := NB195_196.out; have hcz69_0 : w67.cell? ⟨gb196, 0, none⟩ = some (.string x197000_1) := (blk_cell BK196.out 0).trans rfl; have hcz69_1 : w67.cell? ⟨gb196, 1, none⟩ = some (.slice none 0 0) := (blk_cell BK196.out 1).trans rfl; have hcz69_2 : w67.cell? ⟨gb196, 2, none⟩ = some (.bool x197002_1) := (blk_cell BK196.out 2).trans rfl; have hcz69_3 : w67.cell? ⟨gb196, 3, none⟩ = some (.string x197003_1) := (blk_cell BK196.out 3).trans rfl; have hfz69_0 := blk_frozen BK196.out 0; have hfz69_1 := blk_frozen BK196.out 1; have hfz69_2 := blk_frozen BK196.out 2; have hfz69_3 := blk_frozen BK196.out 3))
       refine bodyPost_ret (results_ct rfl _ _ gb196 27 #[.string (⟨#[]⟩ : ByteArray), .slice none 0 0, .bool false, .string (⟨#[]⟩ : ByteArray)] (0, 0) _ rfl (by (with_reducible repeat (first | refine blk_drewN ?_ _ | refine blk_drew ?_ | refine blk_alloc ?_ _)); refine blk_put (cs := #[.string (⟨#[]⟩ : ByteArray), .slice none 0 0, .bool false, .string x197003_1]) ?_ 3 _ rfl; (with_reducible repeat (first | refine blk_drewN ?_ _ | refine blk_drew ?_ | refine blk_alloc ?_ _)); refine blk_put (cs := #[.string (⟨#[]⟩ : ByteArray), .slice none 0 0, .bool x197002_1, .string x197003_1]) ?_ 2 _ rfl; (with_reducible repeat (first | refine blk_drewN ?_ _ | refine blk_drew ?_ | refine blk_alloc ?_ _)); refine blk_put (cs := #[.string (⟨#[]⟩ : ByteArray), .slice none 0 0, .bool x197002_1, .string x197003_1]) ?_ 1 _ rfl; (with_reducible repeat (first | refine blk_drewN ?_ _ | refine blk_drew ?_ | refine blk_alloc ?_ _)); refine blk_put (cs := #[.string x197000_1, .slice none 0 0, .bool x197002_1, .string x197003_1]) ?_ 0 _ rfl; (with_reducible repeat (first | refine blk_drewN ?_ _ | refine blk_drew ?_ | refine blk_alloc ?_ _)); exact BK196.out) Try.underlying27 rfl (by kernel_rfl)) rfl ?_
       exact ⟨_, by first | rfl | (simp <;> rfl) | (simp [*] <;> rfl), by first | exact Kd.R_nil _ _ _ _ _ | exact Kd.N_nil _ _ _ _ _ | exact Kd.V_nil _ _ _ _ _ | exact Kd.Q_nil _ _ _ _ _ | exact Kd.S_nil _ _ _ _ _, by repeat (first | (with_reducible first | exact HB.out | apply below_alloc | apply pw_below_drewN | apply below_drew1 | refine below_set ?_ GE195.out | refine below_set ?_ GE196.out | refine below_set ?_ GE220.out) | exact HB.out)⟩
     ·replace c28 := Bool.eq_false_iff.mpr c28
      subst c28
      have H1 : (some ((⟨#[]⟩ : ByteArray), ([] : List ByteArray), false, (⟨#[]⟩ : ByteArray), false)) = some (r1, r2, r3, r4, r5) := by rw [if_neg (show ¬ (false = true) by decide)] at H; exact H
      clear H
      have H := H1
      clear H1
      simp only [Option.some.injEq, Prod.mk.injEq] at H
      obtain ⟨rfl, rfl, rfl, rfl, rfl⟩ := H
      obtain ⟨Ao70, co70, eo70⟩ := Kd.R_slice HO_9.out
      subst eo70
      try go_wp2_with (first | ((with_reducible refine gate_callee (f := 42) rfl ?_); refine goesL_ (some 51) rfl rfl Try.func42 (by kernel_rfl) rfl #[.string t198] rfl (by (try simp only [List.map_toArray, List.map_cons, List.map_nil]); first | done | rfl | (simp only [List.length_drop, List.length_take]; rfl)) ?_; (with_reducible refine (spec_EscNorm.calls k1 t198 t215 false _ A26.out).mono ?_); rintro e w71 ⟨rfl, hb⟩; refine ⟨_, rfl, ?_⟩; have n0_ := Aside0.mk (Kd.R_below (by (with_reducible repeat (first | apply Kd.R_alloc | apply Kd.R_drewN | apply Kd.R_drew)); exact HO_8.out) hb); have n1_ := Aside0.mk (Kd.R_below (by (with_reducible repeat (first | apply Kd.R_alloc | apply Kd.R_drewN | apply Kd.R_drew)); exact HO_9.out) hb); have n2_ := Aside0.mk (blk_below (g := gb195) (o := .cells #[.string a0_0, .slice A0_1 l0_1.length c0_1, .bool a0_2, .string a0_3] 27 (0, 0)) (by (with_reducible repeat (first | refine blk_drewN ?_ _ | refine blk_drew ?_ | refine blk_alloc ?_ _)); exact BK195.out) hb); have n3_ := Aside0.mk (blk_below (g := gb196) (o := .cells #[.string x197000_1, .slice none 0 0, .bool x197002_1, .string x197003_1] 27 (0, 0)) (by (with_reducible repeat (first | refine blk_drewN ?_ _ | refine blk_drew ?_ | refine blk_alloc ?_ _)); exact BK196.out) hb); have n4_ := Aside0.mk (below_step (by repeat (first | (with_reducible first | exact HB.out | apply below_alloc | apply pw_below_drewN | apply below_drew1 | refine below_set ?_ GE195.out | refine below_set ?_ GE196.out) | exact HB.out)) hb); clear HO_8; clear HO_9; clear BK195; clear BK196; clear HB; have HO_8 := n0_; have HO_9 := n1_; have BK195 := n2_; have BK196 := n3_; have HB := n4_; clear n0_ n1_ n2_ n3_ n4_; (try clear hb); (try clear hb2); (try clear hk); (try clear hi); obtain ⟨Ao72, co72, eo72⟩ := Kd.R_slice HO_8.out; subst eo72))
      have n0_ := Aside0.mk (Kd.R_drew HO_8.out)
      have n1_ := Aside0.mk (Kd.R_drew HO_9.out)
      have n2_ := Aside0.mk (blk_drew BK195.out)
      have n3_ := Aside0.mk (blk_drew BK196.out)
      have n4_ := Aside0.mk (below_drew1 HB.out)
      clear HO_8
      clear HO_9
      clear BK195
      clear BK196
      clear HB
      have HO_8 := n0_
      have HO_9 := n1_
      have BK195 := n2_
      have BK196 := n3_
      have HB := n4_
      clear n0_ n1_ n2_ n3_ n4_
      refine start_ (n := 9) (S := fun w' => w'.cell? ⟨gb195, 0, none⟩ = some (.string a0_0) ∧ w'.cell? ⟨gb195, 1, none⟩ = some (.slice A0_1 l0_1.length c0_1) ∧ w'.cell? ⟨gb195, 2, none⟩ = some (.bool a0_2) ∧ w'.cell? ⟨gb195, 3, none⟩ = some (.string a0_3)) (ds := []) #[false, false, false, false, false, false, false, false, false] (by kernel_rfl) rfl rfl ⟨(blk_cell BK195.out 0).trans rfl, (blk_cell BK195.out 1).trans rfl, (blk_cell BK195.out 2).trans rfl, (blk_cell BK195.out 3).trans rfl⟩ (fun hHeld => ?_); refine with_tabW spec_l1Way.tab12 spec_l1Way.bits12 (fun HT_ HW_ => ?_)
      generalize w71.drew = w73 at HO_8 HO_9 BK195 BK196 HB hHeld ⊢
      refine pure_ (i := 0) (N := some 54) (v := ?_) (a' := ?_) #[true, false, false, false, false, false, false, false, false] rfl rfl (any_of HT_.out (by kernel_rfl)) (fun _ _ _ h => h) (Or.inl ⟨by rfl, ?_⟩) ?_ ?_
      rotate_left
      ·intro w'
       go_simp
       with_reducible rfl
      rotate_left
      ·simp only [Act.put, List.setIfInBounds_toArray, List.set_cons_zero, List.set_cons_succ, i64_w, i32_w]
       rfl
      refine pure_ (i := 2) (N := some 56) (v := ?_) (a' := ?_) #[true, false, true, false, false, false, false, false, false] rfl rfl (any_of HT_.out (by kernel_rfl)) (fun _ _ _ h => h) (Or.inl ⟨by rfl, ?_⟩) ?_ ?_
      rotate_left
      ·intro w'
       go_simp
       with_reducible rfl
      rotate_left
      ·simp only [Act.put, List.setIfInBounds_toArray, List.set_cons_zero, List.set_cons_succ, i64_w, i32_w]
       rfl
      refine pure_ (i := 4) (N := some 58) (v := ?_) (a' := ?_) #[true, false, true, false, true, false, false, false, false] rfl rfl (any_of HT_.out (by kernel_rfl)) (fun _ _ _ h => h) (Or.inl ⟨by rfl, ?_⟩) ?_ ?_
      rotate_left
      ·intro w'
       go_simp
       with_reducible rfl
      rotate_left
      ·simp only [Act.put, List.setIfInBounds_toArray, List.set_cons_zero, List.set_cons_succ, i64_w, i32_w]
       rfl
      refine pure_ (i := 5) (N := some 59) (v := ?_) (a' := ?_) #[true, false, true, false, true, true, false, false, false] rfl rfl (any_of HT_.out (by kernel_rfl)) (fun _ _ _ h => h) (Or.inl ⟨by rfl, ?_⟩) ?_ ?_
      rotate_left
      ·intro w'
       go_simp
       with_reducible rfl
      rotate_left
      ·simp only [Act.put, List.setIfInBounds_toArray, List.set_cons_zero, List.set_cons_succ, i64_w, i32_w]
       rfl
      refine take_ (i := 1) (N := some 55) (v := ?_) (a' := ?_) #[true, true, true, false, true, true, false, false, false] rfl rfl (take_ofW HT_.out HW_.out (by kernel_rfl)) (fun _ _ _ h => h) (Or.inl ⟨by rfl, ?_⟩) hHeld ?_ ?_
      rotate_left
      ·rintro w' ⟨s0, s1, s2, s3⟩
       go_simp
       with_reducible rfl
      rotate_left
      ·simp only [Act.put, List.setIfInBounds_toArray, List.set_cons_zero, List.set_cons_succ, i64_w, i32_w]
       rfl
      refine join_ (σ := Value × Nat) 1 #[true, true, true, true, true, true, true, true, false] (fun s_ => [(57, s_.1), (15, .pointer (some ⟨s_.2, 0, none⟩)), (60, .agg #[.string a0_0, s_.1, .bool t199, .string t215])]) (fun s_ w' => (w'.cell? ⟨gb195, 0, none⟩ = some (.string a0_0) ∧ w'.cell? ⟨gb195, 1, none⟩ = some (.slice A0_1 l0_1.length c0_1) ∧ w'.cell? ⟨gb195, 2, none⟩ = some (.bool a0_2) ∧ w'.cell? ⟨gb195, 3, none⟩ = some (.string a0_3)) ∧ (Kd.R Kd.string 9 w' w.heap.size (fun k_ => some k_ ≠ (.slice Ao72 x8_1.length co72 : Value).ownBlock ∧ some k_ ≠ (.slice Ao70 t206.length co70 : Value).ownBlock) s_.1 t217) ∧ (Kd.R Kd.string 9 w' w.heap.size (fun k_ => some k_ ≠ (s_.1 : Value).ownBlock ∧ some k_ ≠ (.slice Ao70 t206.length co70 : Value).ownBlock) (.slice Ao72 x8_1.length co72) x8_1) ∧ (Kd.R Kd.string 9 w' w.heap.size (fun k_ => some k_ ≠ (s_.1 : Value).ownBlock ∧ some k_ ≠ (.slice Ao72 x8_1.length co72 : Value).ownBlock) (.slice Ao70 t206.length co70) t206) ∧ (w'.heap[gb195]? = some (.cells #[.string a0_0, .slice A0_1 l0_1.length c0_1, .bool a0_2, .string a0_3] 27 (0, 0))) ∧ (w'.heap[gb196]? = some (.cells #[.string x197000_1, .slice none 0 0, .bool x197002_1, .string x197003_1] 27 (0, 0))) ∧ (w'.heap[s_.2]? = some (.cells #[.string (⟨#[]⟩ : ByteArray), .slice none 0 0, .bool false, .string (⟨#[]⟩ : ByteArray)] 27 (0, 0))) ∧ (w.heap.size ≤ s_.2) ∧ (w.heap.size ≤ s_.2) ∧ (gb195 ≠ s_.2) ∧ (s_.2 ≠ gb195) ∧ (gb196 ≠ s_.2) ∧ (s_.2 ≠ gb196) ∧ (Below w.heap.size w w')) ?_ ?_
      rotate_left
      ·intro hCont
       refine two_ (i := 3) (j := 7) (Ni := some 57) (Nj := some 15) #[true, true, true, true, true, true, false, false, false] #[true, true, true, false, true, true, false, true, false] rfl rfl rfl rfl (two_of HT_.out (by kernel_rfl)) (by decide) (by decide) (fun K hK => ?_) (fun K hK => ?_)
       ·skip
        refine goes_ Try.func66 (by kernel_rfl) rfl #[.slice Ao72 x8_1.length co72] (by rfl) rfl rfl (by (try simp only [List.map_toArray, List.map_cons, List.map_nil]); first | done | rfl | (simp only [List.length_drop, List.length_take]; rfl)) ?_
        with_reducible refine (spec_PathClean.calls k1 _ _ x8_1 t217 _ ?side1 ?side2 A27.out).mono ?_
        (case side1 => repeat (first | exact (Kd.R_reads' HO_8.out).2.2 | (with_reducible refine Kd.C_alloc ?_ _) | (with_reducible refine Kd.C_drewN ?_ _) | (with_reducible refine Kd.C_drew ?_)))
        (case side2 => exact (Kd.R_reads' HO_8.out).2.1)
        rintro e w74 ⟨v218, rfl, ho0, hb⟩
        refine ⟨_, rfl, ?_⟩
        have n0_ := Aside0.mk (Kd.R_elder' (by (with_reducible repeat (first | apply Kd.R_alloc | apply Kd.R_drewN | apply Kd.R_drew)); exact HO_8.out) (Kd.R_base ho0) hb)
        have n1_ := Aside0.mk (Kd.R_elder' (by (with_reducible repeat (first | apply Kd.R_alloc | apply Kd.R_drewN | apply Kd.R_drew)); exact HO_9.out) (Kd.R_base ho0) hb)
        have n2_ := Aside0.mk (Kd.R_lower (Kd.R_new' (Kd.R_new' ho0 (Kd.R_lt (by (with_reducible repeat (first | apply Kd.R_alloc | apply Kd.R_drewN | apply Kd.R_drew)); exact HO_8.out))) (Kd.R_lt (by (with_reducible repeat (first | apply Kd.R_alloc | apply Kd.R_drewN | apply Kd.R_drew)); exact HO_9.out))) (below_size (by repeat (first | (with_reducible first | exact HB.out | apply below_alloc | apply pw_below_drewN | apply below_drew1 | refine below_set ?_ GE195.out | refine below_set ?_ GE196.out) | exact HB.out))))
        have n3_ := Aside0.mk (blk_below (g := gb195) (o := .cells #[.string a0_0, .slice A0_1 l0_1.length c0_1, .bool a0_2, .string a0_3] 27 (0, 0)) (by (with_reducible repeat (first | refine blk_drewN ?_ _ | refine blk_drew ?_ | refine blk_alloc ?_ _)); exact BK195.out) hb)
        have n4_ := Aside0.mk (blk_below (g := gb196) (o := .cells #[.string x197000_1, .slice none 0 0, .bool x197002_1, .string x197003_1] 27 (0, 0)) (by (with_reducible repeat (first | refine blk_drewN ?_ _ | refine blk_drew ?_ | refine blk_alloc ?_ _)); exact BK196.out) hb)
        have n5_ := Aside0.mk (below_step (by repeat (first | (with_reducible first | exact HB.out | apply below_alloc | apply pw_below_drewN | apply below_drew1 | refine below_set ?_ GE195.out | refine below_set ?_ GE196.out) | exact HB.out)) hb)
        clear HO_8
        clear HO_9
        clear BK195
        clear BK196
        clear HB
        have HO_8 := n0_
        have HO_9 := n1_
        have HO219 := n2_
        have BK195 := n3_
        have BK196 := n4_
        have HB := n5_
        clear n0_ n1_ n2_ n3_ n4_ n5_
        (try clear hb)
        (try clear hb2)
        (try clear hk)
        (try clear hi)
        (try clear ho0)
        obtain ⟨Ao75, co75, eo75⟩ := Kd.R_slice HO219.out
        (first | subst eo75 | (injection eo75 with f1_ f2_ f3_; have f4_ := f1_.symm; have f5_ := f3_.symm; clear f1_ f2_ f3_; subst f4_; subst f5_))
        refine hK.out _ _ ⟨(blk_cell BK195.out 0).trans rfl, (blk_cell BK195.out 1).trans rfl, (blk_cell BK195.out 2).trans rfl, (blk_cell BK195.out 3).trans rfl⟩ (fun hHeld => ?_)
        clear hK K
        refine norm_ (a' := ?_) ?_ ?_
        rotate_left
        ·show Act.put _ (some 57) _ = _
         simp only [Act.put, List.setIfInBounds_toArray, List.set_cons_zero, List.set_cons_succ, i64_w, i32_w]
         rfl
        refine pure_ (i := 6) (N := some 60) (v := ?_) (a' := ?_) #[true, true, true, true, true, true, true, false, false] rfl rfl (any_of HT_.out (by kernel_rfl)) (fun _ _ _ h => h) (Or.inl ⟨by rfl, ?_⟩) ?_ ?_
        rotate_left
        ·intro w'
         go_simp
         with_reducible rfl
        rotate_left
        ·simp only [Act.put, List.setIfInBounds_toArray, List.set_cons_zero, List.set_cons_succ, i64_w, i32_w]
         rfl
        refine one_ (i := 7) (N := some 15) #[true, true, true, true, true, true, true, true, false] rfl rfl (one_of HT_.out (by kernel_rfl)) (by decide) (fun K hK => ?_)
        refine box_step ?hg (N := 15) ?hd (cs := #[.string (⟨#[]⟩ : ByteArray), .slice none 0 0, .bool false, .string (⟨#[]⟩ : ByteArray)]) (t := 27) ?hr ?_; (case hd => rfl); (case hg => rfl); (case hr => first | (go_simp; done) | (go_simp; rfl))
        intro gb220 hg w76 hbox hb
        have n0_ := Aside0.mk (Kd.R_below (by (with_reducible repeat (first | apply Kd.R_alloc | apply Kd.R_drewN | apply Kd.R_drew)); exact HO_8.out) hb)
        have n1_ := Aside0.mk (Kd.R_below (by (with_reducible repeat (first | apply Kd.R_alloc | apply Kd.R_drewN | apply Kd.R_drew)); exact HO_9.out) hb)
        have n2_ := Aside0.mk (Kd.R_below (by (with_reducible repeat (first | apply Kd.R_alloc | apply Kd.R_drewN | apply Kd.R_drew)); exact HO219.out) hb)
        have n3_ := Aside0.mk (blk_below (g := gb195) (o := .cells #[.string a0_0, .slice A0_1 l0_1.length c0_1, .bool a0_2, .string a0_3] 27 (0, 0)) (by (with_reducible repeat (first | refine blk_drewN ?_ _ | refine blk_drew ?_ | refine blk_alloc ?_ _)); exact BK195.out) hb)
        have n4_ := Aside0.mk (blk_below (g := gb196) (o := .cells #[.string x197000_1, .slice none 0 0, .bool x197002_1, .string x197003_1] 27 (0, 0)) (by (with_reducible repeat (first | refine blk_drewN ?_ _ | refine blk_drew ?_ | refine blk_alloc ?_ _)); exact BK196.out) hb)
        have n5_ := Aside0.mk (below_step (by repeat (first | (with_reducible first | exact HB.out | apply below_alloc | apply pw_below_drewN | apply below_drew1 | refine below_set ?_ GE195.out | refine below_set ?_ GE196.out) | exact HB.out)) hb)
        have n6_ := Aside0.mk (hbox)
        have n7_ := Aside0.mk ((by rw [hg]; exact (below_size (by repeat (first | (with_reducible first | exact HB.out | apply below_alloc | apply pw_below_drewN | apply below_drew1 | refine below_set ?_ GE195.out | refine below_set ?_ GE196.out) | exact HB.out))) : w.heap.size ≤ gb220))
        have n8_ := Aside0.mk ((by rw [hg]; exact (below_size (by repeat (first | (with_reducible first | exact HB.out | apply below_alloc | apply pw_below_drewN | apply below_drew1 | refine below_set ?_ GE195.out | refine below_set ?_ GE196.out) | exact HB.out))) : w.heap.size ≤ gb220))
        have n9_ := Aside0.mk ((by rw [hg]; exact Nat.ne_of_lt (blk_lt (g := gb195) (o := .cells #[.string a0_0, .slice A0_1 l0_1.length c0_1, .bool a0_2, .string a0_3] 27 (0, 0)) (by (with_reducible repeat (first | refine blk_drewN ?_ _ | refine blk_drew ?_ | refine blk_alloc ?_ _)); exact BK195.out)) : gb195 ≠ gb220))
        have n10_ := Aside0.mk ((by rw [hg]; exact Nat.ne_of_gt (blk_lt (g := gb195) (o := .cells #[.string a0_0, .slice A0_1 l0_1.length c0_1, .bool a0_2, .string a0_3] 27 (0, 0)) (by (with_reducible repeat (first | refine blk_drewN ?_ _ | refine blk_drew ?_ | refine blk_alloc ?_ _)); exact BK195.out)) : gb220 ≠ gb195))
        have n11_ := Aside0.mk ((by rw [hg]; exact Nat.ne_of_lt (blk_lt (g := gb196) (o := .cells #[.string x197000_1, .slice none 0 0, .bool x197002_1, .string x197003_1] 27 (0, 0)) (by (with_reducible repeat (first | refine blk_drewN ?_ _ | refine blk_drew ?_ | refine blk_alloc ?_ _)); exact BK196.out)) : gb196 ≠ gb220))
        have n12_ := Aside0.mk ((by rw [hg]; exact Nat.ne_of_gt (blk_lt (g := gb196) (o := .cells #[.string x197000_1, .slice none 0 0, .bool x197002_1, .string x197003_1] 27 (0, 0)) (by (with_reducible repeat (first | refine blk_drewN ?_ _ | refine blk_drew ?_ | refine blk_alloc ?_ _)); exact BK196.out)) : gb220 ≠ gb196))
        clear HO_8
        clear HO_9
        clear HO219
        clear BK195
        clear BK196
        clear HB
        have HO_8 := n0_
        have HO_9 := n1_
        have HO219 := n2_
        have BK195 := n3_
        have BK196 := n4_
        have HB := n5_
        have BK220 := n6_
        have GW220 := n7_
        have GE220 := n8_
        have NB195_220 := n9_
        have NB220_195 := n10_
        have NB196_220 := n11_
        have NB220_196 := n12_
        clear n0_ n1_ n2_ n3_ n4_ n5_ n6_ n7_ n8_ n9_ n10_ n11_ n12_
        clear hb hbox hg
        refine hK.out _ _ ⟨(blk_cell BK195.out 0).trans rfl, (blk_cell BK195.out 1).trans rfl, (blk_cell BK195.out 2).trans rfl, (blk_cell BK195.out 3).trans rfl⟩ (fun hHeld => ?_)
        clear hK K
        refine norm_ (a' := ?_) ?_ ?_
        rotate_left
        ·show Act.put _ (some 15) _ = _
         simp only [Act.put, List.setIfInBounds_toArray, List.set_cons_zero, List.set_cons_succ, i64_w, i32_w]
         rfl
        exact norm_ (by simp only [putAll, Act.put, List.setIfInBounds_toArray, List.set_cons_zero, List.set_cons_succ]) (hCont (.slice Ao75 t217.length co75, gb220) _ ⟨hHeld, (by (with_reducible repeat (first | apply Kd.R_alloc | apply Kd.R_drewN | apply Kd.R_drew)); exact Kd.R_mono HO219.out (fun _ hk => ⟨hk.1.2, hk.2⟩)), (by (with_reducible repeat (first | apply Kd.R_alloc | apply Kd.R_drewN | apply Kd.R_drew)); exact Kd.R_mono HO_8.out (fun _ hk => ⟨hk.2, hk.1⟩)), (by (with_reducible repeat (first | apply Kd.R_alloc | apply Kd.R_drewN | apply Kd.R_drew)); exact Kd.R_mono HO_9.out (fun _ hk => ⟨hk.2, hk.1⟩)), (by (with_reducible repeat (first | refine blk_drewN ?_ _ | refine blk_drew ?_ | refine blk_alloc ?_ _)); exact BK195.out), (by (with_reducible repeat (first | refine blk_drewN ?_ _ | refine blk_drew ?_ | refine blk_alloc ?_ _)); exact BK196.out), (by (with_reducible repeat (first | refine blk_drewN ?_ _ | refine blk_drew ?_ | refine blk_alloc ?_ _)); exact BK220.out), GW220.out, GE220.out, NB195_220.out, NB220_195.out, NB196_220.out, NB220_196.out, (by repeat (first | (with_reducible first | exact HB.out | apply below_alloc | apply pw_below_drewN | apply below_drew1 | refine below_set ?_ GE195.out | refine below_set ?_ GE196.out | refine below_set ?_ GE220.out) | exact HB.out))⟩)
       ·skip
        refine box_step ?hg (N := 15) ?hd (cs := #[.string (⟨#[]⟩ : ByteArray), .slice none 0 0, .bool false, .string (⟨#[]⟩ : ByteArray)]) (t := 27) ?hr ?_; (case hd => rfl); (case hg => rfl); (case hr => first | (go_simp; done) | (go_simp; rfl))
        intro gb220 hg w74 hbox hb
        have n0_ := Aside0.mk (Kd.R_below (by (with_reducible repeat (first | apply Kd.R_alloc | apply Kd.R_drewN | apply Kd.R_drew)); exact HO_8.out) hb)
        have n1_ := Aside0.mk (Kd.R_below (by (with_reducible repeat (first | apply Kd.R_alloc | apply Kd.R_drewN | apply Kd.R_drew)); exact HO_9.out) hb)
        have n2_ := Aside0.mk (blk_below (g := gb195) (o := .cells #[.string a0_0, .slice A0_1 l0_1.length c0_1, .bool a0_2, .string a0_3] 27 (0, 0)) (by (with_reducible repeat (first | refine blk_drewN ?_ _ | refine blk_drew ?_ | refine blk_alloc ?_ _)); exact BK195.out) hb)
        have n3_ := Aside0.mk (blk_below (g := gb196) (o := .cells #[.string x197000_1, .slice none 0 0, .bool x197002_1, .string x197003_1] 27 (0, 0)) (by (with_reducible repeat (first | refine blk_drewN ?_ _ | refine blk_drew ?_ | refine blk_alloc ?_ _)); exact BK196.out) hb)
        have n4_ := Aside0.mk (below_step (by repeat (first | (with_reducible first | exact HB.out | apply below_alloc | apply pw_below_drewN | apply below_drew1 | refine below_set ?_ GE195.out | refine below_set ?_ GE196.out) | exact HB.out)) hb)
        have n5_ := Aside0.mk (hbox)
        have n6_ := Aside0.mk ((by rw [hg]; exact (below_size (by repeat (first | (with_reducible first | exact HB.out | apply below_alloc | apply pw_below_drewN | apply below_drew1 | refine below_set ?_ GE195.out | refine below_set ?_ GE196.out) | exact HB.out))) : w.heap.size ≤ gb220))
        have n7_ := Aside0.mk ((by rw [hg]; exact (below_size (by repeat (first | (with_reducible first | exact HB.out | apply below_alloc | apply pw_below_drewN | apply below_drew1 | refine below_set ?_ GE195.out | refine below_set ?_ GE196.out) | exact HB.out))) : w.heap.size ≤ gb220))
        have n8_ := Aside0.mk ((by rw [hg]; exact Nat.ne_of_lt (blk_lt (g := gb195) (o := .cells #[.string a0_0, .slice A0_1 l0_1.length c0_1, .bool a0_2, .string a0_3] 27 (0, 0)) (by (with_reducible repeat (first | refine blk_drewN ?_ _ | refine blk_drew ?_ | refine blk_alloc ?_ _)); exact BK195.out)) : gb195 ≠ gb220))
        have n9_ := Aside0.mk ((by rw [hg]; exact Nat.ne_of_gt (blk_lt (g := gb195) (o := .cells #[.string a0_0, .slice A0_1 l0_1.length c0_1, .bool a0_2, .string a0_3] 27 (0, 0)) (by (with_reducible repeat (first | refine blk_drewN ?_ _ | refine blk_drew ?_ | refine blk_alloc ?_ _)); exact BK195.out)) : gb220 ≠ gb195))
        have n10_ := Aside0.mk ((by rw [hg]; exact Nat.ne_of_lt (blk_lt (g := gb196) (o := .cells #[.string x197000_1, .slice none 0 0, .bool x197002_1, .string x197003_1] 27 (0, 0)) (by (with_reducible repeat (first | refine blk_drewN ?_ _ | refine blk_drew ?_ | refine blk_alloc ?_ _)); exact BK196.out)) : gb196 ≠ gb220))
        have n11_ := Aside0.mk ((by rw [hg]; exact Nat.ne_of_gt (blk_lt (g := gb196) (o := .cells #[.string x197000_1, .slice none 0 0, .bool x197002_1, .string x197003_1] 27 (0, 0)) (by (with_reducible repeat (first | refine blk_drewN ?_ _ | refine blk_drew ?_ | refine blk_alloc ?_ _)); exact BK196.out)) : gb220 ≠ gb196))
        clear HO_8
        clear HO_9
        clear BK195
        clear BK196
        clear HB
        have HO_8 := n0_
        have HO_9 := n1_
        have BK195 := n2_
        have BK196 := n3_
        have HB := n4_
        have BK220 := n5_
        have GW220 := n6_
        have GE220 := n7_
        have NB195_220 := n8_
        have NB220_195 := n9_
        have NB196_220 := n10_
        have NB220_196 := n11_
        clear n0_ n1_ n2_ n3_ n4_ n5_ n6_ n7_ n8_ n9_ n10_ n11_
        clear hb hbox hg
        refine hK.out _ _ ⟨(blk_cell BK195.out 0).trans rfl, (blk_cell BK195.out 1).trans rfl, (blk_cell BK195.out 2).trans rfl, (blk_cell BK195.out 3).trans rfl⟩ (fun hHeld => ?_)
        clear hK K
        refine norm_ (a' := ?_) ?_ ?_
        rotate_left
        ·show Act.put _ (some 15) _ = _
         simp only [Act.put, List.setIfInBounds_toArray, List.set_cons_zero, List.set_cons_succ, i64_w, i32_w]
         rfl
        refine one_ (i := 3) (N := some 57) #[true, true, true, true, true, true, false, true, false] rfl rfl (one_of HT_.out (by kernel_rfl)) (by decide) (fun K hK => ?_)
        refine goes_ Try.func66 (by kernel_rfl) rfl #[.slice Ao72 x8_1.length co72] (by rfl) rfl rfl (by (try simp only [List.map_toArray, List.map_cons, List.map_nil]); first | done | rfl | (simp only [List.length_drop, List.length_take]; rfl)) ?_
        with_reducible refine (spec_PathClean.calls k1 _ _ x8_1 t217 _ ?side1 ?side2 A27.out).mono ?_
        (case side1 => repeat (first | exact (Kd.R_reads' HO_8.out).2.2 | (with_reducible refine Kd.C_alloc ?_ _) | (with_reducible refine Kd.C_drewN ?_ _) | (with_reducible refine Kd.C_drew ?_)))
        (case side2 => exact (Kd.R_reads' HO_8.out).2.1)
        rintro e w75 ⟨v218, rfl, ho0, hb⟩
        refine ⟨_, rfl, ?_⟩
        have n0_ := Aside0.mk (Kd.R_elder' (by (with_reducible repeat (first | apply Kd.R_alloc | apply Kd.R_drewN | apply Kd.R_drew)); exact HO_8.out) (Kd.R_base ho0) hb)
        have n1_ := Aside0.mk (Kd.R_elder' (by (with_reducible repeat (first | apply Kd.R_alloc | apply Kd.R_drewN | apply Kd.R_drew)); exact HO_9.out) (Kd.R_base ho0) hb)
        have n2_ := Aside0.mk (Kd.R_lower (Kd.R_new' (Kd.R_new' ho0 (Kd.R_lt (by (with_reducible repeat (first | apply Kd.R_alloc | apply Kd.R_drewN | apply Kd.R_drew)); exact HO_8.out))) (Kd.R_lt (by (with_reducible repeat (first | apply Kd.R_alloc | apply Kd.R_drewN | apply Kd.R_drew)); exact HO_9.out))) (below_size (by repeat (first | (with_reducible first | exact HB.out | apply below_alloc | apply pw_below_drewN | apply below_drew1 | refine below_set ?_ GE195.out | refine below_set ?_ GE196.out | refine below_set ?_ GE220.out) | exact HB.out))))
        have n3_ := Aside0.mk (blk_below (g := gb195) (o := .cells #[.string a0_0, .slice A0_1 l0_1.length c0_1, .bool a0_2, .string a0_3] 27 (0, 0)) (by (with_reducible repeat (first | refine blk_drewN ?_ _ | refine blk_drew ?_ | refine blk_alloc ?_ _)); exact BK195.out) hb)
        have n4_ := Aside0.mk (blk_below (g := gb196) (o := .cells #[.string x197000_1, .slice none 0 0, .bool x197002_1, .string x197003_1] 27 (0, 0)) (by (with_reducible repeat (first | refine blk_drewN ?_ _ | refine blk_drew ?_ | refine blk_alloc ?_ _)); exact BK196.out) hb)
        have n5_ := Aside0.mk (blk_below (g := gb220) (o := .cells #[.string (⟨#[]⟩ : ByteArray), .slice none 0 0, .bool false, .string (⟨#[]⟩ : ByteArray)] 27 (0, 0)) (by (with_reducible repeat (first | refine blk_drewN ?_ _ | refine blk_drew ?_ | refine blk_alloc ?_ _)); exact BK220.out) hb)
        have n6_ := Aside0.mk (below_step (by repeat (first | (with_reducible first | exact HB.out | apply below_alloc | apply pw_below_drewN | apply below_drew1 | refine below_set ?_ GE195.out | refine below_set ?_ GE196.out | refine below_set ?_ GE220.out) | exact HB.out)) hb)
        clear HO_8
        clear HO_9
        clear BK195
        clear BK196
        clear BK220
        clear HB
        have HO_8 := n0_
        have HO_9 := n1_
        have HO219 := n2_
        have BK195 := n3_
        have BK196 := n4_
        have BK220 := n5_
        have HB := n6_
        clear n0_ n1_ n2_ n3_ n4_ n5_ n6_
        (try clear hb)
        (try clear hb2)
        (try clear hk)
        (try clear hi)
        (try clear ho0)
        obtain ⟨Ao76, co76, eo76⟩ := Kd.R_slice HO219.out
        (first | subst eo76 | (injection eo76 with f1_ f2_ f3_; have f4_ := f1_.symm; have f5_ := f3_.symm; clear f1_ f2_ f3_; subst f4_; subst f5_))
        refine hK.out _ _ ⟨(blk_cell BK195.out 0).trans rfl, (blk_cell BK195.out 1).trans rfl, (blk_cell BK195.out 2).trans rfl, (blk_cell BK195.out 3).trans rfl⟩ (fun hHeld => ?_)
        clear hK K
        refine norm_ (a' := ?_) ?_ ?_
        rotate_left
        ·show Act.put _ (some 57) _ = _
         simp only [Act.put, List.setIfInBounds_toArray, List.set_cons_zero, List.set_cons_succ, i64_w, i32_w]
         rfl
        refine pure_ (i := 6) (N := some 60) (v := ?_) (a' := ?_) #[true, true, true, true, true, true, true, true, false] rfl rfl (any_of HT_.out (by kernel_rfl)) (fun _ _ _ h => h) (Or.inl ⟨by rfl, ?_⟩) ?_ ?_
        rotate_left
        ·intro w'
         go_simp
         with_reducible rfl
        rotate_left
        ·simp only [Act.put, List.setIfInBounds_toArray, List.set_cons_zero, List.set_cons_succ, i64_w, i32_w]
         rfl
        exact norm_ (by simp only [putAll, Act.put, List.setIfInBounds_toArray, List.set_cons_zero, List.set_cons_succ]) (hCont (.slice Ao76 t217.length co76, gb220) _ ⟨hHeld, (by (with_reducible repeat (first | apply Kd.R_alloc | apply Kd.R_drewN | apply Kd.R_drew)); exact Kd.R_mono HO219.out (fun _ hk => ⟨hk.1.2, hk.2⟩)), (by (with_reducible repeat (first | apply Kd.R_alloc | apply Kd.R_drewN | apply Kd.R_drew)); exact Kd.R_mono HO_8.out (fun _ hk => ⟨hk.2, hk.1⟩)), (by (with_reducible repeat (first | apply Kd.R_alloc | apply Kd.R_drewN | apply Kd.R_drew)); exact Kd.R_mono HO_9.out (fun _ hk => ⟨hk.2, hk.1⟩)), (by (with_reducible repeat (first | refine blk_drewN ?_ _ | refine blk_drew ?_ | refine blk_alloc ?_ _)); exact BK195.out), (by (with_reducible repeat (first | refine blk_drewN ?_ _ | refine blk_drew ?_ | refine blk_alloc ?_ _)); exact BK196.out), (by (with_reducible repeat (first | refine blk_drewN ?_ _ | refine blk_drew ?_ | refine blk_alloc ?_ _)); exact BK220.out), GW220.out, GE220.out, NB195_220.out, NB220_195.out, NB196_220.out, NB220_196.out, (by repeat (first | (with_reducible first | exact HB.out | apply below_alloc | apply pw_below_drewN | apply below_drew1 | refine below_set ?_ GE195.out | refine below_set ?_ GE196.out | refine below_set ?_ GE220.out) | exact HB.out))⟩)
      rintro ⟨v218, gb220⟩ w77 ⟨hS_, h0_, h1_, h2_, h3_, h4_, h5_, h6_, h7_, h8_, h9_, h10_, h11_, h12_⟩
      have n0_ : Aside0 (Kd.R Kd.string 9 w77 w.heap.size (fun k_ => some k_ ≠ (.slice Ao72 x8_1.length co72 : Value).ownBlock ∧ some k_ ≠ (.slice Ao70 t206.length co70 : Value).ownBlock) v218 t217) := ⟨h0_⟩
      have n1_ : Aside0 (Kd.R Kd.string 9 w77 w.heap.size (fun k_ => some k_ ≠ (v218 : Value).ownBlock ∧ some k_ ≠ (.slice Ao70 t206.length co70 : Value).ownBlock) (.slice Ao72 x8_1.length co72) x8_1) := ⟨h1_⟩
      have n2_ : Aside0 (Kd.R Kd.string 9 w77 w.heap.size (fun k_ => some k_ ≠ (v218 : Value).ownBlock ∧ some k_ ≠ (.slice Ao72 x8_1.length co72 : Value).ownBlock) (.slice Ao70 t206.length co70) t206) := ⟨h2_⟩
      have n3_ : Aside0 (w77.heap[gb195]? = some (.cells #[.string a0_0, .slice A0_1 l0_1.length c0_1, .bool a0_2, .string a0_3] 27 (0, 0))) := ⟨h3_⟩
      have n4_ : Aside0 (w77.heap[gb196]? = some (.cells #[.string x197000_1, .slice none 0 0, .bool x197002_1, .string x197003_1] 27 (0, 0))) := ⟨h4_⟩
      have n5_ : Aside0 (w77.heap[gb220]? = some (.cells #[.string (⟨#[]⟩ : ByteArray), .slice none 0 0, .bool false, .string (⟨#[]⟩ : ByteArray)] 27 (0, 0))) := ⟨h5_⟩
      have n6_ : Aside0 (w.heap.size ≤ gb220) := ⟨h6_⟩
      have n7_ : Aside0 (w.heap.size ≤ gb220) := ⟨h7_⟩
      have n8_ : Aside0 (gb195 ≠ gb220) := ⟨h8_⟩
      have n9_ : Aside0 (gb220 ≠ gb195) := ⟨h9_⟩
      have n10_ : Aside0 (gb196 ≠ gb220) := ⟨h10_⟩
      have n11_ : Aside0 (gb220 ≠ gb196) := ⟨h11_⟩
      have n12_ : Aside0 (Below w.heap.size w w77) := ⟨h12_⟩
      clear HO_8
      clear HO_9
      clear BK195
      clear BK196
      clear HB
      clear h0_ h1_ h2_ h3_ h4_ h5_ h6_ h7_ h8_ h9_ h10_ h11_ h12_
      have HO219 := n0_
      have HO_8 := n1_
      have HO_9 := n2_
      have BK195 := n3_
      have BK196 := n4_
      have BK220 := n5_
      have GW220 := n6_
      have GE220 := n7_
      have NB195_220 := n8_
      have NB220_195 := n9_
      have NB196_220 := n10_
      have NB220_196 := n11_
      have HB := n12_
      clear n0_ n1_ n2_ n3_ n4_ n5_ n6_ n7_ n8_ n9_ n10_ n11_ n12_
      have hHeld : w77.cell? ⟨gb195, 0, none⟩ = some (.string a0_0) ∧ w77.cell? ⟨gb195, 1, none⟩ = some (.slice A0_1 l0_1.length c0_1) ∧ w77.cell? ⟨gb195, 2, none⟩ = some (.bool a0_2) ∧ w77.cell? ⟨gb195, 3, none⟩ = some (.string a0_3) := hS_
      obtain ⟨Ao78, co78, eo78⟩ := Kd.R_slice HO219.out
      (first | subst eo78 | (injection eo78 with f1_ f2_ f3_; have f4_ := f1_.symm; have f5_ := f3_.symm; clear f1_ f2_ f3_; subst f4_; subst f5_))
      refine norm_ (a' := ?_) ?_ ?_
      rotate_left
      ·simp only [putAll, Act.put, List.setIfInBounds_toArray, List.set_cons_zero, List.set_cons_succ]
       rfl
      refine one_ (i := 8) (N := none) #[true, true, true, true, true, true, true, true, true] rfl rfl (one_of HT_.out (by kernel_rfl)) (by decide) (fun K hK => ?_)
      have hs79 : w77.cell? ⟨gb220, 0, none⟩ = some (.string (⟨#[]⟩ : ByteArray)) := (blk_cell BK220.out 0).trans rfl
      have hfs79 := blk_frozen BK220.out 0
      have hns79_0 := NB195_220.out
      have hns79_1 := NB196_220.out
      have hms79_0 := NB220_195.out
      have hms79_1 := NB220_196.out
      have hs80 : w77.cell? ⟨gb220, 1, none⟩ = some (.slice none 0 0) := (blk_cell BK220.out 1).trans rfl
      have hfs80 := blk_frozen BK220.out 1
      have hns80_0 := NB195_220.out
      have hns80_1 := NB196_220.out
      have hms80_0 := NB220_195.out
      have hms80_1 := NB220_196.out
      have hs81 : w77.cell? ⟨gb220, 2, none⟩ = some (.bool false) := (blk_cell BK220.out 2).trans rfl
      have hfs81 := blk_frozen BK220.out 2
      have hns81_0 := NB195_220.out
      have hns81_1 := NB196_220.out
      have hms81_0 := NB220_195.out
      have hms81_1 := NB220_196.out
      have hs82 : w77.cell? ⟨gb220, 3, none⟩ = some (.string (⟨#[]⟩ : ByteArray)) := (blk_cell BK220.out 3).trans rfl
      have hfs82 := blk_frozen BK220.out 3
      have hns82_0 := NB195_220.out
      have hns82_1 := NB196_220.out
      have hms82_0 := NB220_195.out
      have hms82_1 := NB220_196.out
      refine skip_ (w1 := ?_) (by rfl) rfl ?_ ?_
      rotate_left
      ·go_simp
       rfl
      refine hK.out _ _ ⟨((cell_far (p := ⟨gb220, _, none⟩) NB195_220.out _).trans (((cell_far (p := ⟨gb220, _, none⟩) NB195_220.out _).trans (((cell_far (p := ⟨gb220, _, none⟩) NB195_220.out _).trans (((cell_far (p := ⟨gb220, _, none⟩) NB195_220.out _).trans (hHeld.1)))))))), ((cell_far (p := ⟨gb220, _, none⟩) NB195_220.out _).trans (((cell_far (p := ⟨gb220, _, none⟩) NB195_220.out _).trans (((cell_far (p := ⟨gb220, _, none⟩) NB195_220.out _).trans (((cell_far (p := ⟨gb220, _, none⟩) NB195_220.out _).trans (hHeld.2.1)))))))), ((cell_far (p := ⟨gb220, _, none⟩) NB195_220.out _).trans (((cell_far (p := ⟨gb220, _, none⟩) NB195_220.out _).trans (((cell_far (p := ⟨gb220, _, none⟩) NB195_220.out _).trans (((cell_far (p := ⟨gb220, _, none⟩) NB195_220.out _).trans (hHeld.2.2.1)))))))), ((cell_far (p := ⟨gb220, _, none⟩) NB195_220.out _).trans (((cell_far (p := ⟨gb220, _, none⟩) NB195_220.out _).trans (((cell_far (p := ⟨gb220, _, none⟩) NB195_220.out _).trans (((cell_far (p := ⟨gb220, _, none⟩) NB195_220.out _).trans (hHeld.2.2.2))))))))⟩ (fun hHeld => ?_)
      clear hK K
      refine done_ (done_of HT_.out (by kernel_rfl)) ?_
      have hnb83 := NB196_195.out
      have hnc83 := NB195_196.out
      have hnb84 := NB196_220.out
      have hnc84 := NB220_196.out
      have hcz85_0 : w77.cell? ⟨gb196, 0, none⟩ = some (.string x197000_1) := (blk_cell BK196.out 0).trans rfl
      have hcz85_1 : w77.cell? ⟨gb196, 1, none⟩ = some (.slice none 0 0) := (blk_cell BK196.out 1).trans rfl
      have hcz85_2 : w77.cell? ⟨gb196, 2, none⟩ = some (.bool x197002_1) := (blk_cell BK196.out 2).trans rfl
      have hcz85_3 : w77.cell? ⟨gb196, 3, none⟩ = some (.string x197003_1) := (blk_cell BK196.out 3).trans rfl
      have hfz85_0 := blk_frozen BK196.out 0
      have hfz85_1 := blk_frozen BK196.out 1
      have hfz85_2 := blk_frozen BK196.out 2
      have hfz85_3 := blk_frozen BK196.out 3
      try go_wp2
      refine bodyPost_ret (results_ct rfl _ _ gb196 27 #[.string (⟨#[]⟩ : ByteArray), .slice none 0 0, .bool false, .string (⟨#[]⟩ : ByteArray)] (0, 0) _ rfl (by (with_reducible repeat (first | refine blk_drewN ?_ _ | refine blk_drew ?_ | refine blk_alloc ?_ _)); refine blk_put (cs := #[.string (⟨#[]⟩ : ByteArray), .slice none 0 0, .bool false, .string x197003_1]) ?_ 3 _ rfl; (with_reducible repeat (first | refine blk_drewN ?_ _ | refine blk_drew ?_ | refine blk_alloc ?_ _)); refine blk_put (cs := #[.string (⟨#[]⟩ : ByteArray), .slice none 0 0, .bool x197002_1, .string x197003_1]) ?_ 2 _ rfl; (with_reducible repeat (first | refine blk_drewN ?_ _ | refine blk_drew ?_ | refine blk_alloc ?_ _)); refine blk_put (cs := #[.string (⟨#[]⟩ : ByteArray), .slice none 0 0, .bool x197002_1, .string x197003_1]) ?_ 1 _ rfl; (with_reducible repeat (first | refine blk_drewN ?_ _ | refine blk_drew ?_ | refine blk_alloc ?_ _)); refine blk_put (cs := #[.string x197000_1, .slice none 0 0, .bool x197002_1, .string x197003_1]) ?_ 0 _ rfl; (with_reducible repeat (first | refine blk_drewN ?_ _ | refine blk_drew ?_ | refine blk_alloc ?_ _)); refine blk_far ?_ NB196_220.out _; (with_reducible repeat (first | refine blk_drewN ?_ _ | refine blk_drew ?_ | refine blk_alloc ?_ _)); refine blk_far ?_ NB196_220.out _; (with_reducible repeat (first | refine blk_drewN ?_ _ | refine blk_drew ?_ | refine blk_alloc ?_ _)); refine blk_far ?_ NB196_220.out _; (with_reducible repeat (first | refine blk_drewN ?_ _ | refine blk_drew ?_ | refine blk_alloc ?_ _)); refine blk_far ?_ NB196_220.out _; (with_reducible repeat (first | refine blk_drewN ?_ _ | refine blk_drew ?_ | refine blk_alloc ?_ _)); exact BK196.out) Try.underlying27 rfl (by kernel_rfl)) rfl ?_
      exact ⟨_, by first | rfl | (simp <;> rfl) | (simp [*] <;> rfl), by first | exact Kd.R_nil _ _ _ _ _ | exact Kd.N_nil _ _ _ _ _ | exact Kd.V_nil _ _ _ _ _ | exact Kd.Q_nil _ _ _ _ _ | exact Kd.S_nil _ _ _ _ _, by repeat (first | (with_reducible first | exact HB.out | apply below_alloc | apply pw_below_drewN | apply below_drew1 | refine below_set ?_ GE195.out | refine below_set ?_ GE196.out | refine below_set ?_ GE220.out) | exact HB.out)⟩
 ·rw [if_neg c4] at H
  exact absurd H (by simp)

end Go.Proofs.Ytochmlkladpfgaa.P
