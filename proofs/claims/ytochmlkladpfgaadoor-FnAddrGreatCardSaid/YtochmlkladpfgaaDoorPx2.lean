-- Written by a program of this session (patch_print.py over the kit's print; given texts in wip/given).
-- Cut down by a program of this session (wip/tools/prune.py) to what its claim can name.
import Derived.Test.YtochmlkladpfgaaDoorPx0
import Derived.Test.YtochmlkladpfgaaDoorPx1
namespace Go.Proofs.YtochmlkladpfgaaDoor.P
open Go.RowKit Go.Proofs.YtochmlkladpfgaaDoorW.PrintWords Go.Proofs.YtochmlkladpfgaaDoorW.PrintLast Go.Proofs.YtochmlkladpfgaaDoorW.PrintMore
attribute [local go_sem] max2_int min2_int max_two min_two max_three min_three max_four min_four   -- for this text's walks alone
set_option linter.unusedVariables false
set_option linter.unusedSimpArgs false
set_option maxHeartbeats 8000000
set_option maxRecDepth 100000

/-! ### spec_l6Open: function 27 -/
def spec_l6Open.f (l0:List Int):Option (List Int × Int):=if (l0.length:Int) > 2000 then (if 2000 ≤ (l0.length:Int) then (some (l0.take 2000,0)) else (none)) else (some (l0,0))
theorem spec_l6Open.calls (A0:Option Addr) (c0:Nat) (l0:List Int) (r1:List Int) (r2:Int) (w0 w:World) (hB:Below w0.heap.size w0 w) (hr0:Kd.C (Kd.int .u8) w0 A0 l0.length l0) (hc0:l0.length ≤ c0) (h:spec_l6Open.f l0 = some (r1,r2)) :
  Calls Tryd.prog 27 #[.slice A0 l0.length c0] w fun e w'=>∃ g_:Nat,e = .returned (.pointer (some ⟨g_,0,none⟩)) ∧ IsS55 w0 w' g_ r1 r2 ∧ Below w0.heap.size w0 w' ∧ Below w.heap.size w w':=by
 have hu55:=Tryd.underlying55
 have HR0:=Aside0.mk hr0
 have HC0:=Aside0.mk hc0
 clear hr0 hc0
 have HBW:=Aside0.mk (Below.refl w.heap.size w)
 have HW0:=Aside0.mk hB.size
 have HB:=Aside0.mk hB
 clear hB
 have H:(if (l0.length:Int) > 2000 then (if 2000 ≤ (l0.length:Int) then (some (l0.take 2000,0)) else (none)) else (some (l0,0))) = some (r1,r2):=h
 clear h
 by_cases c2:(l0.length:Int) > 2000
 ·rw [if_pos c2] at H
  have c2b0:decide (2000 < (l0.length:Int)) = true:=decide_eq_true c2
  have c2b1:decide (2000 < l0.length) = true:=decide_eq_true (by omega)
  clear c2
  by_cases c3:2000 ≤ (l0.length:Int)
  ·rw [if_pos c3] at H
   have c3b0:=eq_true c3
   have c3b1:=decide_eq_true c3
   clear c3
   simp only [Option.some.injEq,Prod.mk.injEq] at H
   obtain ⟨rfl,rfl⟩:=H
   obtain ⟨i04,hi04,_,hsz4,_⟩:=info_parts info5
   obtain ⟨hcut4,hA4,hC4⟩:=print_take_of (P:=Tryd.prog) (Value.int .u8) 0 30 5 .i64 Tryd.underlying30 hi04 hsz4 A0 c0 l0 2000 (by omega) (of_decide_eq_true (by first|(with_reducible assumption)|assumption)) HC0.out
   have HR101:=Aside0.mk (Kd.C_of_reads (h1:=fun _=>rfl) (hA4 _ (Kd.reads_of_C HR0.out)))
   have HC101:=Aside0.mk hC4
   clear hA4 hC4 hi04 hsz4
   go_enter Tryd.func27,Tryd.ntmps27
   go_wp2_with (first|((with_reducible refine gate_dst (N:=10) rfl ?_);refine box_event ?hg (N:=10) ?hd (cs:=#[.slice A0 (l0.take 2000).length c0, .int .i64 0]) (t:=55) ?hr ?_;(case hd=>rfl);(case hg=>rfl);(case hr=>first|(go_simp;done)|(go_simp;rfl));intro gb102 hg w5 hbox hb;have n0_:=Aside0.mk (below_step HBW.out hb);have n1_:=Aside0.mk (below_step (by repeat (first|(with_reducible first|exact HB.out|apply below_alloc|apply pw_below_drewN|apply below_drew1)|exact HB.out)) hb);have n2_:=Aside0.mk (hbox);have n3_:=Aside0.mk ((by rw [hg];exact (below_size (by repeat (first|(with_reducible first|exact HBW.out|apply below_alloc|apply pw_below_drewN|apply below_drew1)|exact HBW.out))):w.heap.size ≤ gb102));have n4_:=Aside0.mk ((Nat.le_trans HW0.out (by rw [hg];exact (below_size (by repeat (first|(with_reducible first|exact HBW.out|apply below_alloc|apply pw_below_drewN|apply below_drew1)|exact HBW.out))):w.heap.size ≤ gb102):w0.heap.size ≤ gb102));clear HBW;clear HB;have HBW:=n0_;have HB:=n1_;have BK102:=n2_;have GW102:=n3_;have GE102:=n4_;clear n0_ n1_ n2_ n3_ n4_;clear hb hbox hg))
   go_ret
   exact ⟨_,rfl,(show IsS55 w0 _ gb102 (l0.take 2000) 0 from ⟨_,_,by (with_reducible repeat (first|refine blk_drewN ?_ _|refine blk_drew ?_|refine blk_alloc ?_ _));exact BK102.out,GE102.out,HR101.out⟩),by repeat (first|(with_reducible first|exact HB.out|apply below_alloc|apply pw_below_drewN|apply below_drew1|refine below_set ?_ GE102.out)|exact HB.out),by repeat (first|(with_reducible first|exact HBW.out|apply below_alloc|apply pw_below_drewN|apply below_drew1|refine below_set ?_ GW102.out)|exact HBW.out)⟩
  ·rw [if_neg c3] at H
   exact absurd H (by simp)
 ·rw [if_neg c2] at H
  have c2b0:decide (2000 < (l0.length:Int)) = false:=decide_eq_false c2
  have c2b1:decide (2000 < l0.length) = false:=decide_eq_false (by omega)
  clear c2
  simp only [Option.some.injEq,Prod.mk.injEq] at H
  obtain ⟨rfl,rfl⟩:=H
  go_enter Tryd.func27,Tryd.ntmps27
  go_wp2_with (first|((with_reducible refine gate_dst (N:=10) rfl ?_);refine box_event ?hg (N:=10) ?hd (cs:=#[.slice A0 l0.length c0, .int .i64 0]) (t:=55) ?hr ?_;(case hd=>rfl);(case hg=>rfl);(case hr=>first|(go_simp;done)|(go_simp;rfl));intro gb103 hg w6 hbox hb;have n0_:=Aside0.mk (below_step HBW.out hb);have n1_:=Aside0.mk (below_step (by repeat (first|(with_reducible first|exact HB.out|apply below_alloc|apply pw_below_drewN|apply below_drew1)|exact HB.out)) hb);have n2_:=Aside0.mk (hbox);have n3_:=Aside0.mk ((by rw [hg];exact (below_size (by repeat (first|(with_reducible first|exact HBW.out|apply below_alloc|apply pw_below_drewN|apply below_drew1)|exact HBW.out))):w.heap.size ≤ gb103));have n4_:=Aside0.mk ((Nat.le_trans HW0.out (by rw [hg];exact (below_size (by repeat (first|(with_reducible first|exact HBW.out|apply below_alloc|apply pw_below_drewN|apply below_drew1)|exact HBW.out))):w.heap.size ≤ gb103):w0.heap.size ≤ gb103));clear HBW;clear HB;have HBW:=n0_;have HB:=n1_;have BK103:=n2_;have GW103:=n3_;have GE103:=n4_;clear n0_ n1_ n2_ n3_ n4_;clear hb hbox hg))
  go_ret
  exact ⟨_,rfl,(show IsS55 w0 _ gb103 l0 0 from ⟨_,_,by (with_reducible repeat (first|refine blk_drewN ?_ _|refine blk_drew ?_|refine blk_alloc ?_ _));exact BK103.out,GE103.out,HR0.out⟩),by repeat (first|(with_reducible first|exact HB.out|apply below_alloc|apply pw_below_drewN|apply below_drew1|refine below_set ?_ GE103.out)|exact HB.out),by repeat (first|(with_reducible first|exact HBW.out|apply below_alloc|apply pw_below_drewN|apply below_drew1|refine below_set ?_ GW103.out)|exact HBW.out)⟩

/-! ### spec_l6Rd_pick: function 32 -/
def spec_l6Rd_pick.j0:Nat → Int → Bool → List Int → Int → Option (Int × Int)
 | 0,_,_,_,_=>none
 | k + 1,x1,x24,x1000,x1001=>if x24 = true then (some (0,x1001)) else (if (wrap64 (x1001 - 1)) < (x1000.length:Int) then (if 0 ≤ (wrap64 (x1001 - 1)) then (if x1 = 0 then (none) else (some (Int.tmod (wrap64 (rd x1000 (wrap64 (x1001 - 1)))) x1,x1001))) else (none)) else (if (x1000.length:Int) = 0 then (none) else (if 0 ≤ (Int.tmod (wrap64 (x1001 - 1)) (x1000.length:Int)) then (if (Int.tmod (wrap64 (x1001 - 1)) (x1000.length:Int)) < (x1000.length:Int) then (if 0 ≤ (Int.tmod (wrap64 ((wrap64 ((wrap64 (x1001 - 1)) * 7)) + 3)) (x1000.length:Int)) then (if (Int.tmod (wrap64 ((wrap64 ((wrap64 (x1001 - 1)) * 7)) + 3)) (x1000.length:Int)) < (x1000.length:Int) then (if x1 = 0 then (none) else (some (Int.tmod (Go.bits .xor .i64 (wrap64 ((wrap64 ((wrap64 ((wrap64 ((wrap64 (rd x1000 (Int.tmod (wrap64 (x1001 - 1)) (x1000.length:Int)))) * 131)) + (wrap64 ((wrap64 (rd x1000 (Int.tmod (wrap64 ((wrap64 ((wrap64 (x1001 - 1)) * 7)) + 3)) (x1000.length:Int)))) * 1117)))) + (wrap64 ((wrap64 (x1001 - 1)) * 29)))) + (wrap64 ((wrap64 (Int.tdiv (wrap64 (x1001 - 1)) (x1000.length:Int))) * 53)))) (wrap64 (Int.tdiv (wrap64 ((wrap64 ((wrap64 ((wrap64 ((wrap64 (rd x1000 (Int.tmod (wrap64 (x1001 - 1)) (x1000.length:Int)))) * 131)) + (wrap64 ((wrap64 (rd x1000 (Int.tmod (wrap64 ((wrap64 ((wrap64 (x1001 - 1)) * 7)) + 3)) (x1000.length:Int)))) * 1117)))) + (wrap64 ((wrap64 (x1001 - 1)) * 29)))) + (wrap64 ((wrap64 (Int.tdiv (wrap64 (x1001 - 1)) (x1000.length:Int))) * 53)))) 64))) x1,x1001))) else (none)) else (none)) else (none)) else (none))))
def spec_l6Rd_pick.f (k:Nat) (s0_0:List Int) (s0_1:Int) (a1:Int):Option (Int × Int):=if a1 < 1 then (spec_l6Rd_pick.j0 k a1 true s0_0 (wrap64 (s0_1 + 1))) else (spec_l6Rd_pick.j0 k a1 ((s0_0.length:Int) == 0) s0_0 (wrap64 (s0_1 + 1)))
theorem spec_l6Rd_pick.mono_l:∀ k,(∀ y0 y1 y2 y3,LeO (spec_l6Rd_pick.j0 k y0 y1 y2 y3) (spec_l6Rd_pick.j0 (k + 1) y0 y1 y2 y3))
 | 0=>fun _ _ _ _ r h=>by simp [spec_l6Rd_pick.j0] at h
 | k + 1=>by
  have ih0:=spec_l6Rd_pick.mono_l k
  ·intro y0 y1 y2 y3
   unfold spec_l6Rd_pick.j0
   repeat' first
   | (with_reducible exact ih0 _ _ _ _)
   | (with_reducible exact LeO.refl _)
   | (with_reducible exact LeO.none _)
   | (with_reducible refine LeO.ite ?_ ?_)
   | (with_reducible refine LeO.bind ?_ (fun _=>?_))
   | exact ih0 _ _ _ _
   | exact LeO.none _
   | refine LeO.ite ?_ ?_
   | refine LeO.bind ?_ (fun _=>?_)
theorem spec_l6Rd_pick.mono:∀ a0 a1 a2 k,LeO (spec_l6Rd_pick.f k a0 a1 a2) (spec_l6Rd_pick.f (k + 1) a0 a1 a2):=by
 intro a0 a1 a2 k
 have ih0:=spec_l6Rd_pick.mono_l k
 unfold spec_l6Rd_pick.f
 repeat' first
   | (with_reducible exact ih0 _ _ _ _)
   | (with_reducible exact LeO.refl _)
   | (with_reducible exact LeO.none _)
   | (with_reducible refine LeO.ite ?_ ?_)
   | (with_reducible refine LeO.bind ?_ (fun _=>?_))
   | exact ih0 _ _ _ _
   | exact LeO.none _
   | refine LeO.ite ?_ ?_
   | refine LeO.bind ?_ (fun _=>?_)
theorem spec_l6Rd_pick.calls (k:Nat) (g:Nat) (s0_0:List Int) (s0_1:Int) (a1:Int) (r1:Int) (r2:Int) (w0 w:World) (hI:IsS55 w0 w g s0_0 s0_1) (hB:Below w0.heap.size w0 w) (h:spec_l6Rd_pick.f k s0_0 s0_1 a1 = some (r1,r2)) :
  Calls Tryd.prog 32 #[.pointer (some ⟨g,0,none⟩), .int .i64 a1] w fun e w'=>e = .returned (.int .i64 r1) ∧ IsS55 w0 w' g s0_0 r2 ∧ Below w0.heap.size w0 w' ∧ KeepBut w w' g none:=by
 have HI0:=Aside0.mk hI
 have HK:=Aside0.mk (KeepBut.refl w g none)
 have HL:=Aside0.mk hB.size
 clear hI
 have HW0:=Aside0.mk hB.size
 have HB:=Aside0.mk hB
 clear hB
 have H:(if a1 < 1 then (spec_l6Rd_pick.j0 k a1 true s0_0 (wrap64 (s0_1 + 1))) else (spec_l6Rd_pick.j0 k a1 ((s0_0.length:Int) == 0) s0_0 (wrap64 (s0_1 + 1)))) = some (r1,r2):=h
 clear h
 have HC3:=Aside0.mk H
 clear H
 obtain ⟨ASz4_0,cSz4_0,HGz4,hgz4,HSz4_0⟩:=HI0.out
 have hcz4_0:=cellS55_0 HGz4
 have hcz4_1:=cellS55_1 HGz4
 have hfz4_1:=blk_frozen HGz4 1
 clear HGz4 hgz4
 go_enter Tryd.func32,Tryd.ntmps32
 go_upto_region 2 with (fail)
 repeat (go_quiet (fail);go_upto_region 2 with (fail))
 go_cut [24] (fun v24 wc=>∃ (kq:Nat) (x24_2:Bool),v24 = .bool x24_2 ∧ Aside0 (spec_l6Rd_pick.j0 kq a1 x24_2 s0_0 (wrap64 (s0_1 + 1)) = some (r1,r2)) ∧ Aside0 (kq ≤ k) ∧ Aside0 (IsS55 w0 wc g s0_0 (wrap64 (s0_1 + 1))) ∧ Aside0 (KeepBut w wc g none) ∧ Aside0 (Below w0.heap.size w0 wc))
 case first =>
  have H:=HC3.out
  clear HC3
  by_cases c5:a1 < 1
  ·rw [if_pos c5] at H
   have c5b0:decide (a1 < 1) = true:=decide_eq_true c5
   clear c5
   (first|rw [c5b0]|(simp only [i64_w,i32_w];rw [c5b0])|skip)
   have H':=Aside0.mk H
   clear H
   go_wp2
   repeat (go_quiet (fail);try go_wp2)
   go_meet
   case rel=>exact ⟨_,(true),(by first|rfl|(simp;done)|(simp only [i64_w,i32_w];done)|(simp only [i64_w,i32_w];rfl)|(simp [*];done)|(simp [emp_bne,emp_beq];done)),H',⟨by first|omega|exact Nat.le_refl _⟩,⟨by repeat (first|(with_reducible first|exact HI0.out|apply IsS55.alloc|apply IsS55.drewN|apply IsS55.drew|apply IsS55.set_1)|exact HI0.out)⟩,⟨by repeat (first|(with_reducible first|exact HK.out|apply KeepBut.set_|apply keep_drewN|apply keep_drew|apply keep_alloc)|exact HK.out)⟩,⟨by repeat (first|(with_reducible first|exact HB.out|apply below_alloc|apply pw_below_drewN|apply below_drew1|refine below_set ?_ (IsS55.ge HI0.out))|exact HB.out)⟩⟩
  ·rw [if_neg c5] at H
   have c5b0:decide (a1 < 1) = false:=decide_eq_false c5
   clear c5
   (first|rw [c5b0]|(simp only [i64_w,i32_w];rw [c5b0])|skip)
   have H':=Aside0.mk H
   clear H
   obtain ⟨ASz6_0,cSz6_0,HGz6,hgz6,HSz6_0⟩:=HI0.out
   have hcz6_0:=cellS55_0 HGz6
   have hcz6_1:=cellS55_1 HGz6
   have hfz6_1:=blk_frozen HGz6 1
   clear HGz6 hgz6
   go_wp2
   repeat (go_quiet (fail);try go_wp2)
   go_meet
   case rel=>exact ⟨_,(((s0_0.length:Int) == 0)),(by first|rfl|(simp;done)|(simp only [i64_w,i32_w];done)|(simp only [i64_w,i32_w];rfl)|(simp [*];done)|(simp [emp_bne,emp_beq];done)),H',⟨by first|omega|exact Nat.le_refl _⟩,⟨by repeat (first|(with_reducible first|exact HI0.out|apply IsS55.alloc|apply IsS55.drewN|apply IsS55.drew|apply IsS55.set_1)|exact HI0.out)⟩,⟨by repeat (first|(with_reducible first|exact HK.out|apply KeepBut.set_|apply keep_drewN|apply keep_drew|apply keep_alloc)|exact HK.out)⟩,⟨by repeat (first|(with_reducible first|exact HB.out|apply below_alloc|apply pw_below_drewN|apply below_drew1|refine below_set ?_ (IsS55.ge HI0.out))|exact HB.out)⟩⟩
 case rest =>
  clear HC3
  try clear p2
  try clear c3
  try clear c5
  try clear c5b0
  try clear p6
  try clear hcz4_0
  try clear hcz4_1
  try clear hcz6_0
  try clear hcz6_1
  try clear hfz4_1
  try clear hfz6_1
  obtain ⟨kq,x24_2,rfl,HA,HJ2,HI0,HK,HB⟩:=hcut
  cases kq with
  | zero=>exact absurd HA.out (by simp [spec_l6Rd_pick.j0])
  | succ kj2 =>
   have H:=HA.out
   clear HA
   simp only [spec_l6Rd_pick.j0] at H
   by_cases c7:x24_2 = true
   ·subst c7
    have H1:(some (0,(wrap64 (s0_1 + 1)))) = some (r1,r2):=by rw [if_pos rfl] at H;exact H
    clear H
    have H:=H1
    clear H1
    simp only [Option.some.injEq,Prod.mk.injEq] at H
    obtain ⟨rfl,rfl⟩:=H
    go_wp2
    repeat (go_quiet (fail);try go_wp2)
    go_ret
    exact ⟨by first|rfl|(simp <;> rfl)|(simp [*] <;> rfl),by repeat (first|(with_reducible first|exact HI0.out|apply IsS55.alloc|apply IsS55.drewN|apply IsS55.drew|apply IsS55.set_1)|exact HI0.out),by repeat (first|(with_reducible first|exact HB.out|apply below_alloc|apply pw_below_drewN|apply below_drew1|refine below_set ?_ (IsS55.ge HI0.out))|exact HB.out),by repeat (first|(with_reducible first|exact HK.out|apply KeepBut.set_|apply keep_drewN|apply keep_drew|apply keep_alloc)|exact HK.out)⟩
   ·replace c7:=Bool.eq_false_iff.mpr c7
    subst c7
    have H1:(if (wrap64 ((wrap64 (s0_1 + 1)) - 1)) < (s0_0.length:Int) then (if 0 ≤ (wrap64 ((wrap64 (s0_1 + 1)) - 1)) then (if a1 = 0 then (none) else (some (Int.tmod (wrap64 (rd s0_0 (wrap64 ((wrap64 (s0_1 + 1)) - 1)))) a1,(wrap64 (s0_1 + 1))))) else (none)) else (if (s0_0.length:Int) = 0 then (none) else (if 0 ≤ (Int.tmod (wrap64 ((wrap64 (s0_1 + 1)) - 1)) (s0_0.length:Int)) then (if (Int.tmod (wrap64 ((wrap64 (s0_1 + 1)) - 1)) (s0_0.length:Int)) < (s0_0.length:Int) then (if 0 ≤ (Int.tmod (wrap64 ((wrap64 ((wrap64 ((wrap64 (s0_1 + 1)) - 1)) * 7)) + 3)) (s0_0.length:Int)) then (if (Int.tmod (wrap64 ((wrap64 ((wrap64 ((wrap64 (s0_1 + 1)) - 1)) * 7)) + 3)) (s0_0.length:Int)) < (s0_0.length:Int) then (if a1 = 0 then (none) else (some (Int.tmod (Go.bits .xor .i64 (wrap64 ((wrap64 ((wrap64 ((wrap64 ((wrap64 (rd s0_0 (Int.tmod (wrap64 ((wrap64 (s0_1 + 1)) - 1)) (s0_0.length:Int)))) * 131)) + (wrap64 ((wrap64 (rd s0_0 (Int.tmod (wrap64 ((wrap64 ((wrap64 ((wrap64 (s0_1 + 1)) - 1)) * 7)) + 3)) (s0_0.length:Int)))) * 1117)))) + (wrap64 ((wrap64 ((wrap64 (s0_1 + 1)) - 1)) * 29)))) + (wrap64 ((wrap64 (Int.tdiv (wrap64 ((wrap64 (s0_1 + 1)) - 1)) (s0_0.length:Int))) * 53)))) (wrap64 (Int.tdiv (wrap64 ((wrap64 ((wrap64 ((wrap64 ((wrap64 (rd s0_0 (Int.tmod (wrap64 ((wrap64 (s0_1 + 1)) - 1)) (s0_0.length:Int)))) * 131)) + (wrap64 ((wrap64 (rd s0_0 (Int.tmod (wrap64 ((wrap64 ((wrap64 ((wrap64 (s0_1 + 1)) - 1)) * 7)) + 3)) (s0_0.length:Int)))) * 1117)))) + (wrap64 ((wrap64 ((wrap64 (s0_1 + 1)) - 1)) * 29)))) + (wrap64 ((wrap64 (Int.tdiv (wrap64 ((wrap64 (s0_1 + 1)) - 1)) (s0_0.length:Int))) * 53)))) 64))) a1,(wrap64 (s0_1 + 1))))) else (none)) else (none)) else (none)) else (none)))) = some (r1,r2):=by rw [if_neg (show ¬ (false = true) by decide)] at H;exact H
    clear H
    have H:=H1
    clear H1
    by_cases c8:(wrap64 ((wrap64 (s0_1 + 1)) - 1)) < (s0_0.length:Int)
    ·rw [if_pos c8] at H
     have c8b0:decide ((wrap64 ((wrap64 (s0_1 + 1)) - 1)) < (s0_0.length:Int)) = true:=decide_eq_true c8
     clear c8
     obtain ⟨ji9,hji9⟩:∃ j_:Int,(wrap64 ((wrap64 (s0_1 + 1)) - 1)) = j_:=⟨_,rfl⟩
     replace H:(if 0 ≤ (ji9) then (if a1 = 0 then (none) else (some (Int.tmod (wrap64 (rd s0_0 (ji9))) a1,(wrap64 (s0_1 + 1))))) else (none)) = some (r1,r2):=by first|(rw [hji9] at H;exact H)|(simp only [hji9] at H ⊢;exact H)
     (try rw [hji9] at c8b0)
     have hji9w:(IntKind.i64.wrap ((wrap64 (s0_1 + 1)) - 1)) = ji9:=(i64_w _).trans hji9
     by_cases c10:0 ≤ (ji9)
     ·rw [if_pos c10] at H
      have c10b0:decide (0 ≤ (ji9)) = true:=decide_eq_true c10
      clear c10
      by_cases c11:a1 = 0
      ·rw [if_pos c11] at H
       exact absurd H (by simp)
      ·rw [if_neg c11] at H
       have c11b0:(a1 == 0) = false:=beq_eq_false_iff_ne.mpr c11
       have c11b1:(a1 != 0) = true:=bne_iff_ne.mpr c11
       simp only [Option.some.injEq,Prod.mk.injEq] at H
       obtain ⟨rfl,rfl⟩:=H
       obtain ⟨ASz12_0,cSz12_0,HGz12,hgz12,HSz12_0⟩:=HI0.out
       have hcz12_0:=cellS55_0 HGz12
       have hcz12_1:=cellS55_1 HGz12
       have hfz12_1:=blk_frozen HGz12 1
       clear HGz12 hgz12
       have p104:0 ≤ ((ji9):Int):=of_decide_eq_true (by first|(with_reducible assumption)|assumption)
       have q104:(ji9) < (s0_0.length:Int):=of_decide_eq_true (by first|(with_reducible assumption)|assumption)
       obtain ⟨ad104,e104,hx104_0⟩:=Kd.at_int HSz12_0 (ji9) p104 q104
       cases e104
       replace hx104_0:=pw_cell_below HB.out hx104_0
       replace p104:=eq_true p104
       replace q104:=eq_true q104
       go_wp2
       repeat (go_quiet (fail);try go_wp2)
       go_ret
       exact ⟨by first|rfl|(simp <;> rfl)|(simp only [← hji9];first|rfl|(simp <;> rfl))|(simp [*] <;> rfl),by repeat (first|(with_reducible first|exact HI0.out|apply IsS55.alloc|apply IsS55.drewN|apply IsS55.drew|apply IsS55.set_1)|exact HI0.out),by repeat (first|(with_reducible first|exact HB.out|apply below_alloc|apply pw_below_drewN|apply below_drew1|refine below_set ?_ (IsS55.ge HI0.out))|exact HB.out),by repeat (first|(with_reducible first|exact HK.out|apply KeepBut.set_|apply keep_drewN|apply keep_drew|apply keep_alloc)|exact HK.out)⟩
     ·rw [if_neg c10] at H
      exact absurd H (by simp)
    ·rw [if_neg c8] at H
     have c8b0:decide ((wrap64 ((wrap64 (s0_1 + 1)) - 1)) < (s0_0.length:Int)) = false:=decide_eq_false c8
     clear c8
     by_cases c13:(s0_0.length:Int) = 0
     ·rw [if_pos c13] at H
      exact absurd H (by simp)
     ·rw [if_neg c13] at H
      have c13b0:((s0_0.length:Int) == 0) = false:=beq_eq_false_iff_ne.mpr c13
      have c13b1:((s0_0.length:Int) != 0) = true:=bne_iff_ne.mpr c13
      have c13b2:¬ (s0_0 = []):=fun h_=>c13 (by rw [h_];rfl)
      obtain ⟨ji14,hji14⟩:∃ j_:Int,(Int.tmod (wrap64 ((wrap64 (s0_1 + 1)) - 1)) (s0_0.length:Int)) = j_:=⟨_,rfl⟩
      replace H:(if 0 ≤ (ji14) then (if (ji14) < (s0_0.length:Int) then (if 0 ≤ (Int.tmod (wrap64 ((wrap64 ((wrap64 ((wrap64 (s0_1 + 1)) - 1)) * 7)) + 3)) (s0_0.length:Int)) then (if (Int.tmod (wrap64 ((wrap64 ((wrap64 ((wrap64 (s0_1 + 1)) - 1)) * 7)) + 3)) (s0_0.length:Int)) < (s0_0.length:Int) then (if a1 = 0 then (none) else (some (Int.tmod (Go.bits .xor .i64 (wrap64 ((wrap64 ((wrap64 ((wrap64 ((wrap64 (rd s0_0 (ji14))) * 131)) + (wrap64 ((wrap64 (rd s0_0 (Int.tmod (wrap64 ((wrap64 ((wrap64 ((wrap64 (s0_1 + 1)) - 1)) * 7)) + 3)) (s0_0.length:Int)))) * 1117)))) + (wrap64 ((wrap64 ((wrap64 (s0_1 + 1)) - 1)) * 29)))) + (wrap64 ((wrap64 (Int.tdiv (wrap64 ((wrap64 (s0_1 + 1)) - 1)) (s0_0.length:Int))) * 53)))) (wrap64 (Int.tdiv (wrap64 ((wrap64 ((wrap64 ((wrap64 ((wrap64 (rd s0_0 (ji14))) * 131)) + (wrap64 ((wrap64 (rd s0_0 (Int.tmod (wrap64 ((wrap64 ((wrap64 ((wrap64 (s0_1 + 1)) - 1)) * 7)) + 3)) (s0_0.length:Int)))) * 1117)))) + (wrap64 ((wrap64 ((wrap64 (s0_1 + 1)) - 1)) * 29)))) + (wrap64 ((wrap64 (Int.tdiv (wrap64 ((wrap64 (s0_1 + 1)) - 1)) (s0_0.length:Int))) * 53)))) 64))) a1,(wrap64 (s0_1 + 1))))) else (none)) else (none)) else (none)) else (none)) = some (r1,r2):=by first|(rw [hji14] at H;exact H)|(simp only [hji14] at H ⊢;exact H)
      by_cases c15:0 ≤ (ji14)
      ·rw [if_pos c15] at H
       have c15b0:decide (0 ≤ (ji14)) = true:=decide_eq_true c15
       clear c15
       by_cases c16:(ji14) < (s0_0.length:Int)
       ·rw [if_pos c16] at H
        have c16b0:decide ((ji14) < (s0_0.length:Int)) = true:=decide_eq_true c16
        clear c16
        obtain ⟨ji17,hji17⟩:∃ j_:Int,(Int.tmod (wrap64 ((wrap64 ((wrap64 ((wrap64 (s0_1 + 1)) - 1)) * 7)) + 3)) (s0_0.length:Int)) = j_:=⟨_,rfl⟩
        replace H:(if 0 ≤ (ji17) then (if (ji17) < (s0_0.length:Int) then (if a1 = 0 then (none) else (some (Int.tmod (Go.bits .xor .i64 (wrap64 ((wrap64 ((wrap64 ((wrap64 ((wrap64 (rd s0_0 (ji14))) * 131)) + (wrap64 ((wrap64 (rd s0_0 (ji17))) * 1117)))) + (wrap64 ((wrap64 ((wrap64 (s0_1 + 1)) - 1)) * 29)))) + (wrap64 ((wrap64 (Int.tdiv (wrap64 ((wrap64 (s0_1 + 1)) - 1)) (s0_0.length:Int))) * 53)))) (wrap64 (Int.tdiv (wrap64 ((wrap64 ((wrap64 ((wrap64 ((wrap64 (rd s0_0 (ji14))) * 131)) + (wrap64 ((wrap64 (rd s0_0 (ji17))) * 1117)))) + (wrap64 ((wrap64 ((wrap64 (s0_1 + 1)) - 1)) * 29)))) + (wrap64 ((wrap64 (Int.tdiv (wrap64 ((wrap64 (s0_1 + 1)) - 1)) (s0_0.length:Int))) * 53)))) 64))) a1,(wrap64 (s0_1 + 1))))) else (none)) else (none)) = some (r1,r2):=by first|(rw [hji17] at H;exact H)|(simp only [hji17] at H ⊢;exact H)
        by_cases c18:0 ≤ (ji17)
        ·rw [if_pos c18] at H
         have c18b0:decide (0 ≤ (ji17)) = true:=decide_eq_true c18
         clear c18
         by_cases c19:(ji17) < (s0_0.length:Int)
         ·rw [if_pos c19] at H
          have c19b0:decide ((ji17) < (s0_0.length:Int)) = true:=decide_eq_true c19
          clear c19
          by_cases c20:a1 = 0
          ·rw [if_pos c20] at H
           exact absurd H (by simp)
          ·rw [if_neg c20] at H
           have c20b0:(a1 == 0) = false:=beq_eq_false_iff_ne.mpr c20
           have c20b1:(a1 != 0) = true:=bne_iff_ne.mpr c20
           simp only [Option.some.injEq,Prod.mk.injEq] at H
           obtain ⟨rfl,rfl⟩:=H
           obtain ⟨ASz21_0,cSz21_0,HGz21,hgz21,HSz21_0⟩:=HI0.out
           have hcz21_0:=cellS55_0 HGz21
           have hcz21_1:=cellS55_1 HGz21
           have hfz21_1:=blk_frozen HGz21 1
           clear HGz21 hgz21
           have p105:0 ≤ ((ji14):Int):=of_decide_eq_true (by first|(with_reducible assumption)|assumption)
           have q105:(ji14) < (s0_0.length:Int):=of_decide_eq_true (by first|(with_reducible assumption)|assumption)
           obtain ⟨ad105,e105,hx105_0⟩:=Kd.at_int HSz21_0 (ji14) p105 q105
           cases e105
           replace hx105_0:=pw_cell_below HB.out hx105_0
           replace p105:=eq_true p105
           replace q105:=eq_true q105
           have p106:0 ≤ ((ji17):Int):=of_decide_eq_true (by first|(with_reducible assumption)|assumption)
           have q106:(ji17) < (s0_0.length:Int):=of_decide_eq_true (by first|(with_reducible assumption)|assumption)
           obtain ⟨ad106,e106,hx106_0⟩:=Kd.at_int HSz21_0 (ji17) p106 q106
           obtain rfl:ad105 = ad106:=(by injection e106)
           replace hx106_0:=pw_cell_below HB.out hx106_0
           replace p106:=eq_true p106
           replace q106:=eq_true q106
           go_wp2
           repeat (go_quiet (fail);try go_wp2)
           go_ret
           exact ⟨by first|rfl|(simp <;> rfl)|(simp only [← hji14,← hji17];first|rfl|(simp <;> rfl))|(simp [*] <;> rfl),by repeat (first|(with_reducible first|exact HI0.out|apply IsS55.alloc|apply IsS55.drewN|apply IsS55.drew|apply IsS55.set_1)|exact HI0.out),by repeat (first|(with_reducible first|exact HB.out|apply below_alloc|apply pw_below_drewN|apply below_drew1|refine below_set ?_ (IsS55.ge HI0.out))|exact HB.out),by repeat (first|(with_reducible first|exact HK.out|apply KeepBut.set_|apply keep_drewN|apply keep_drew|apply keep_alloc)|exact HK.out)⟩
         ·rw [if_neg c19] at H
          exact absurd H (by simp)
        ·rw [if_neg c18] at H
         exact absurd H (by simp)
       ·rw [if_neg c16] at H
        exact absurd H (by simp)
      ·rw [if_neg c15] at H
       exact absurd H (by simp)

/-! ### spec_l6Rd_of: function 34 -/
def spec_l6Rd_of.f (k:Nat) (s0_0:List Int) (s0_1:Int) (l1:List ByteArray):Option (ByteArray × Int):=(spec_l6Rd_pick.f k s0_0 s0_1 (l1.length:Int)).bind fun bt107=>(if 0 ≤ bt107.1 then (if bt107.1 < (l1.length:Int) then (some (rdOf ByteArray.empty l1 bt107.1,bt107.2)) else (none)) else (none))
theorem spec_l6Rd_of.mono:∀ a0 a1 a2 k,LeO (spec_l6Rd_of.f k a0 a1 a2) (spec_l6Rd_of.f (k + 1) a0 a1 a2):=by
 intro a0 a1 a2 k
 unfold spec_l6Rd_of.f
 repeat' first
   | (with_reducible exact spec_l6Rd_pick.mono _ _ _ _)
   | (with_reducible exact LeO.refl _)
   | (with_reducible exact LeO.none _)
   | (with_reducible refine LeO.ite ?_ ?_)
   | (with_reducible refine LeO.bind ?_ (fun _=>?_))
   | exact spec_l6Rd_pick.mono _ _ _ _
   | exact LeO.none _
   | refine LeO.ite ?_ ?_
   | refine LeO.bind ?_ (fun _=>?_)
theorem spec_l6Rd_of.calls (k:Nat) (g:Nat) (s0_0:List Int) (s0_1:Int) (A1:Option Addr) (c1:Nat) (l1:List ByteArray) (r1:ByteArray) (r2:Int) (w0 w:World) (hI:IsS55 w0 w g s0_0 s0_1) (hB:Below w0.heap.size w0 w) (hr1:Kd.C Kd.string w A1 l1.length l1) (hc1:l1.length ≤ c1) (hf1:∀ ad,A1 = some ad → 0 < l1.length → ad.block ≠ g) (h:spec_l6Rd_of.f k s0_0 s0_1 l1 = some (r1,r2)) :
  Calls Tryd.prog 34 #[.pointer (some ⟨g,0,none⟩), .slice A1 l1.length c1] w fun e w'=>e = .returned (.string r1) ∧ IsS55 w0 w' g s0_0 r2 ∧ Below w0.heap.size w0 w' ∧ KeepBut w w' g none:=by
 have HR1:=Aside0.mk hr1
 have HC1:=Aside0.mk hc1
 clear hr1 hc1
 have HI0:=Aside0.mk hI
 have HK:=Aside0.mk (KeepBut.refl w g none)
 have HL:=Aside0.mk hB.size
 clear hI
 have HW0:=Aside0.mk hB.size
 have HB:=Aside0.mk hB
 clear hB
 have H:((spec_l6Rd_pick.f k s0_0 s0_1 (l1.length:Int)).bind fun bt107=>(if 0 ≤ bt107.1 then (if bt107.1 < (l1.length:Int) then (some (rdOf ByteArray.empty l1 bt107.1,bt107.2)) else (none)) else (none))) = some (r1,r2):=h
 clear h
 replace H:=Option.bind_eq_some_iff.mp H
 obtain ⟨⟨t107,t108⟩,A30,H⟩:=H
 replace H:(if 0 ≤ t107 then (if t107 < (l1.length:Int) then (some (rdOf ByteArray.empty l1 t107,t108)) else (none)) else (none)) = some (r1,r2):=H
 have A3:=Aside0.mk A30
 clear A30
 by_cases c4:0 ≤ t107
 ·rw [if_pos c4] at H
  have c4b0:decide (0 ≤ t107) = true:=decide_eq_true c4
  clear c4
  by_cases c5:t107 < (l1.length:Int)
  ·rw [if_pos c5] at H
   have c5b0:decide (t107 < (l1.length:Int)) = true:=decide_eq_true c5
   clear c5
   simp only [Option.some.injEq,Prod.mk.injEq] at H
   obtain ⟨rfl,rfl⟩:=H
   go_enter Tryd.func34,Tryd.ntmps34
   go_wp2_with (first|((with_reducible refine gate_callee (f:=32) rfl ?_);refine goesL_ (some 9) rfl rfl Tryd.func32 (by kernel_rfl) rfl #[.pointer (some ⟨g,0,none⟩), .int .i64 (l1.length:Int)] rfl (by (try simp only [List.map_toArray,List.map_cons,List.map_nil]);first|done|rfl|(simp only [List.length_drop,List.length_take];rfl)) ?_;(with_reducible refine (spec_l6Rd_pick.calls k g s0_0 s0_1 (l1.length:Int) t107 t108 w0 _ ?side1 ?side2 A3.out).mono ?_);(case side1=>repeat (first|(with_reducible first|exact HI0.out|apply IsS55.alloc|apply IsS55.drewN|apply IsS55.drew|apply IsS55.set_1)|exact HI0.out));(case side2=>repeat (first|(with_reducible first|exact HB.out|apply below_alloc|apply pw_below_drewN|apply below_drew1|refine below_set ?_ (IsS55.ge HI0.out))|exact HB.out));rintro e w6 ⟨rfl,hi,hb,hk⟩;refine ⟨_,rfl,?_⟩;have n0_:=Aside0.mk (KeepBut.trans (by repeat (first|(with_reducible first|exact HK.out|apply KeepBut.set_|apply keep_drewN|apply keep_drew|apply keep_alloc)|exact HK.out)) hk (.inl rfl));have n1_:=Aside0.mk (hb);have n2_:=Aside0.mk (hi);clear HK;clear HB;clear HI0;have HK:=n0_;have HB:=n1_;have HI0:=n2_;clear n0_ n1_ n2_;(try clear hb);(try clear hb2);(try clear hk);(try clear hi);have p109:0 ≤ (t107:Int):=of_decide_eq_true (by first|(with_reducible assumption)|assumption);have q109:t107 < (l1.length:Int):=of_decide_eq_true (by first|(with_reducible assumption)|assumption);obtain ⟨ad109,e109,hx109_0⟩:=Kd.at_string HR1.out t107 p109 q109;cases e109;replace hx109_0:=keep_cell HK.out hx109_0 (by first|(rw [add_block];exact hf1 _ rfl (by omega))|exact hf1 _ rfl (by omega)|exact hf1 ad109 rfl (by omega));replace p109:=eq_true p109;replace q109:=eq_true q109))
   go_ret
   exact ⟨by first|rfl|(simp <;> rfl)|(simp [*] <;> rfl),by repeat (first|(with_reducible first|exact HI0.out|apply IsS55.alloc|apply IsS55.drewN|apply IsS55.drew|apply IsS55.set_1)|exact HI0.out),by repeat (first|(with_reducible first|exact HB.out|apply below_alloc|apply pw_below_drewN|apply below_drew1|refine below_set ?_ (IsS55.ge HI0.out))|exact HB.out),by repeat (first|(with_reducible first|exact HK.out|apply KeepBut.set_|apply keep_drewN|apply keep_drew|apply keep_alloc)|exact HK.out)⟩
  ·rw [if_neg c5] at H
   exact absurd H (by simp)
 ·rw [if_neg c4] at H
  exact absurd H (by simp)

/-! ### spec_l1Path: function 50 -/
def spec_l1Path.l0:Nat → ByteArray → Int → ByteArray → List ByteArray → Bool → ByteArray → Option (ByteArray)
 | 0,_,_,_,_,_,_=>none
 | k + 1,x3,x4,x111000,x111001,x111002,x111003=>if x4 < (x111001.length:Int) then (if x4 > 0 then (if x3.size + 1 ≤ 9223372036854775807 then (if 0 ≤ x4 then (if (x3 ++ (⟨#[47]⟩:ByteArray)).size + (rdOf ByteArray.empty x111001 x4).size ≤ 9223372036854775807 then (spec_l1Path.l0 k ((x3 ++ (⟨#[47]⟩:ByteArray)) ++ (rdOf ByteArray.empty x111001 x4)) (wrap64 (x4 + 1)) x111000 x111001 x111002 x111003) else (none)) else (none)) else (none)) else (if 0 ≤ x4 then (if x3.size + (rdOf ByteArray.empty x111001 x4).size ≤ 9223372036854775807 then (spec_l1Path.l0 k (x3 ++ (rdOf ByteArray.empty x111001 x4)) (wrap64 (x4 + 1)) x111000 x111001 x111002 x111003) else (none)) else (none))) else (if x111002 = true then (if x3.size + 1 ≤ 9223372036854775807 then (if (x3 ++ (⟨#[63]⟩:ByteArray)).size + x111003.size ≤ 9223372036854775807 then (some ((x3 ++ (⟨#[63]⟩:ByteArray)) ++ x111003)) else (none)) else (none)) else (some x3))
def spec_l1Path.f (k:Nat) (a0_0:ByteArray) (l0_1:List ByteArray) (a0_2:Bool) (a0_3:ByteArray):Option (ByteArray):=spec_l1Path.l0 k (⟨#[47]⟩:ByteArray) 0 a0_0 l0_1 a0_2 a0_3
theorem spec_l1Path.mono_l:∀ k,(∀ y0 y1 y2 y3 y4 y5,LeO (spec_l1Path.l0 k y0 y1 y2 y3 y4 y5) (spec_l1Path.l0 (k + 1) y0 y1 y2 y3 y4 y5))
 | 0=>fun _ _ _ _ _ _ r h=>by simp [spec_l1Path.l0] at h
 | k + 1=>by
  have ih0:=spec_l1Path.mono_l k
  ·intro y0 y1 y2 y3 y4 y5
   unfold spec_l1Path.l0
   repeat' first
   | (with_reducible exact ih0 _ _ _ _ _ _)
   | (with_reducible exact LeO.refl _)
   | (with_reducible exact LeO.none _)
   | (with_reducible refine LeO.ite ?_ ?_)
   | (with_reducible refine LeO.bind ?_ (fun _=>?_))
   | exact ih0 _ _ _ _ _ _
   | exact LeO.none _
   | refine LeO.ite ?_ ?_
   | refine LeO.bind ?_ (fun _=>?_)
theorem spec_l1Path.mono:∀ a0 a1 a2 a3 k,LeO (spec_l1Path.f k a0 a1 a2 a3) (spec_l1Path.f (k + 1) a0 a1 a2 a3):=by
 intro a0 a1 a2 a3 k
 have ih0:=spec_l1Path.mono_l k
 unfold spec_l1Path.f
 repeat' first
   | (with_reducible exact ih0 _ _ _ _ _ _)
   | (with_reducible exact LeO.refl _)
   | (with_reducible exact LeO.none _)
   | (with_reducible refine LeO.ite ?_ ?_)
   | (with_reducible refine LeO.bind ?_ (fun _=>?_))
   | exact ih0 _ _ _ _ _ _
   | exact LeO.none _
   | refine LeO.ite ?_ ?_
   | refine LeO.bind ?_ (fun _=>?_)
theorem spec_l1Path.calls (k:Nat) (a0_0:ByteArray) (A0_1:Option Addr) (c0_1:Nat) (l0_1:List ByteArray) (a0_2:Bool) (a0_3:ByteArray) (r:ByteArray) (w:World) (hr0_1:Kd.C Kd.string w A0_1 l0_1.length l0_1) (hc0_1:l0_1.length ≤ c0_1) (h:spec_l1Path.f k a0_0 l0_1 a0_2 a0_3 = some r) :
  Calls Tryd.prog 50 #[.agg #[.string a0_0, .slice A0_1 l0_1.length c0_1, .bool a0_2, .string a0_3]] w fun e w'=>e = .returned (.string r) ∧ Below w.heap.size w w':=by
 have hu24:=Tryd.underlying24
 have HR0_1:=Aside0.mk hr0_1
 have HC0_1:=Aside0.mk hc0_1
 clear hr0_1 hc0_1
 have HB:=Aside0.mk (Below.refl w.heap.size w)
 have H:(spec_l1Path.l0 k (⟨#[47]⟩:ByteArray) 0 a0_0 l0_1 a0_2 a0_3) = some r:=h
 clear h
 have H':=Aside0.mk H
 clear H
 go_enter Tryd.func50,Tryd.ntmps50
 go_wp2_with (first|((with_reducible refine gate_dst (N:=1) rfl ?_);refine box_event ?hg (N:=1) ?hd (cs:=#[.string a0_0, .slice A0_1 l0_1.length c0_1, .bool a0_2, .string a0_3]) (t:=24) ?hr ?_;(case hd=>rfl);(case hg=>rfl);(case hr=>first|(go_simp;done)|(go_simp;rfl));intro gb110 hg w2 hbox hb;have n0_:=Aside0.mk (below_step (by repeat (first|(with_reducible first|exact HB.out|apply below_alloc|apply pw_below_drewN|apply below_drew1)|exact HB.out)) hb);have n1_:=Aside0.mk (hbox);have n2_:=Aside0.mk ((by rw [hg];exact (below_size (by repeat (first|(with_reducible first|exact HB.out|apply below_alloc|apply pw_below_drewN|apply below_drew1)|exact HB.out))):w.heap.size ≤ gb110));have n3_:=n2_;clear HB;have HB:=n0_;have BK110:=n1_;have GW110:=n2_;have GE110:=n3_;clear n0_ n1_ n2_ n3_;clear hb hbox hg))
 go_loopg [3,4] k (fun kq v3 v4 w'=>∃ (x3_1:ByteArray) (x4_1:Int),v3 = .string x3_1 ∧ v4 = .int .i64 x4_1 ∧ Aside0 (spec_l1Path.l0 kq x3_1 x4_1 a0_0 l0_1 a0_2 a0_3 = some r) ∧ Aside0 (kq ≤ k) ∧ Aside0 (w'.heap[gb110]? = some (.cells #[.string a0_0,(.slice A0_1 l0_1.length c0_1), .bool a0_2, .string a0_3] 24 (0,0))) ∧ Aside0 (Below w.heap.size w w'))
 case atStart=>exact ⟨((⟨#[47]⟩:ByteArray)),(0),(by first|rfl|(simp;done)|(simp only [i64_w,i32_w];done)|(simp only [i64_w,i32_w];rfl)|(simp [*];done)|(simp [emp_bne,emp_beq];done)),(by first|rfl|(simp;done)|(simp only [i64_w,i32_w];done)|(simp only [i64_w,i32_w];rfl)|(simp [*];done)|(simp [emp_bne,emp_beq];done)),H',⟨Nat.le_refl _⟩,⟨by (with_reducible repeat (first|refine blk_drewN ?_ _|refine blk_drew ?_|refine blk_alloc ?_ _));exact BK110.out⟩,⟨by repeat (first|(with_reducible first|exact HB.out|apply below_alloc|apply pw_below_drewN|apply below_drew1|refine below_set ?_ GE110.out)|exact HB.out)⟩⟩
 case round =>
  clear H'
  try clear p2
  obtain ⟨x3_1,x4_1,rfl,rfl,HA,HK1,BK110,HB⟩:=hrel
  cases gk with
  | zero=>exact absurd HA.out (by simp [spec_l1Path.l0])
  | succ k1 =>
   have H:=HA.out
   clear HA
   simp only [spec_l1Path.l0] at H
   by_cases c3:x4_1 < (l0_1.length:Int)
   ·rw [if_pos c3] at H
    have c3b0:decide (x4_1 < (l0_1.length:Int)) = true:=decide_eq_true c3
    clear c3
    by_cases c4:x4_1 > 0
    ·rw [if_pos c4] at H
     have c4b0:decide (0 < x4_1) = true:=decide_eq_true c4
     clear c4
     by_cases c5:x3_1.size + 1 ≤ 9223372036854775807
     ·rw [if_pos c5] at H
      have c5b0:=eq_true c5
      have c5b1:=decide_eq_true c5
      try have c5b2:(9223372036854775807 < x3_1.size + 1) = False:=eq_false (Nat.not_lt.2 c5)
      by_cases c6:0 ≤ x4_1
      ·rw [if_pos c6] at H
       have c6b0:decide (0 ≤ x4_1) = true:=decide_eq_true c6
       clear c6
       by_cases c7:(x3_1 ++ (⟨#[47]⟩:ByteArray)).size + (rdOf ByteArray.empty l0_1 x4_1).size ≤ 9223372036854775807
       ·rw [if_pos c7] at H
        have c7b0:=eq_true c7
        have c7b1:=decide_eq_true c7
        try have c7b3:(9223372036854775807 < x3_1.size + 1 + (rdOf ByteArray.empty l0_1 x4_1).size) = False:=eq_false (Nat.not_lt.2 (by have h_:=c7;simp only [ByteArray.size_append] at h_;exact h_))
        try have c7b2:(9223372036854775807 < (x3_1 ++ (⟨#[47]⟩:ByteArray)).size + (rdOf ByteArray.empty l0_1 x4_1).size) = False:=eq_false (Nat.not_lt.2 c7)
        have H':=Aside0.mk H
        clear H
        have hcz8_0:wr.cell? ⟨gb110,0,none⟩ = some (.string a0_0):=(blk_cell BK110.out 0).trans rfl
        have hcz8_1:wr.cell? ⟨gb110,1,none⟩ = some (.slice A0_1 l0_1.length c0_1):=(blk_cell BK110.out 1).trans rfl
        have hcz8_2:wr.cell? ⟨gb110,2,none⟩ = some (.bool a0_2):=(blk_cell BK110.out 2).trans rfl
        have hcz8_3:wr.cell? ⟨gb110,3,none⟩ = some (.string a0_3):=(blk_cell BK110.out 3).trans rfl
        have hfz8_0:=blk_frozen BK110.out 0
        have hfz8_1:=blk_frozen BK110.out 1
        have hfz8_2:=blk_frozen BK110.out 2
        have hfz8_3:=blk_frozen BK110.out 3
        have p111:0 ≤ (x4_1:Int):=of_decide_eq_true (by first|(with_reducible assumption)|assumption)
        have q111:x4_1 < (l0_1.length:Int):=of_decide_eq_true (by first|(with_reducible assumption)|assumption)
        obtain ⟨ad111,e111,hx111_0⟩:=Kd.at_string HR0_1.out x4_1 p111 q111
        cases e111
        replace hx111_0:=(HB.out.cell (World.block_lt_of_cell? w _ hx111_0)).trans hx111_0
        replace p111:=eq_true p111
        replace q111:=eq_true q111
        go_wp2
        go_roundg k1
        case measure=>have:=HK1.out;omega
        case rel=>exact ⟨((x3_1 ++ (⟨#[47]⟩:ByteArray)) ++ (rdOf ByteArray.empty l0_1 x4_1)),(wrap64 (x4_1 + 1)),(by first|rfl|(simp;done)|(simp only [i64_w,i32_w];done)|(simp only [i64_w,i32_w];rfl)|(simp [*];done)|(simp [emp_bne,emp_beq];done)),(by first|rfl|(simp;done)|(simp only [i64_w,i32_w];done)|(simp only [i64_w,i32_w];rfl)|(simp [*];done)|(simp [emp_bne,emp_beq];done)),H',⟨by have:=HK1.out;omega⟩,⟨by (with_reducible repeat (first|refine blk_drewN ?_ _|refine blk_drew ?_|refine blk_alloc ?_ _));exact BK110.out⟩,⟨by repeat (first|(with_reducible first|exact HB.out|apply below_alloc|apply pw_below_drewN|apply below_drew1|refine below_set ?_ GE110.out)|exact HB.out)⟩⟩
       ·rw [if_neg c7] at H
        exact absurd H (by simp)
      ·rw [if_neg c6] at H
       exact absurd H (by simp)
     ·rw [if_neg c5] at H
      exact absurd H (by simp)
    ·rw [if_neg c4] at H
     have c4b0:decide (0 < x4_1) = false:=decide_eq_false c4
     clear c4
     by_cases c9:0 ≤ x4_1
     ·rw [if_pos c9] at H
      have c9b0:decide (0 ≤ x4_1) = true:=decide_eq_true c9
      clear c9
      by_cases c10:x3_1.size + (rdOf ByteArray.empty l0_1 x4_1).size ≤ 9223372036854775807
      ·rw [if_pos c10] at H
       have c10b0:=eq_true c10
       have c10b1:=decide_eq_true c10
       try have c10b2:(9223372036854775807 < x3_1.size + (rdOf ByteArray.empty l0_1 x4_1).size) = False:=eq_false (Nat.not_lt.2 c10)
       have H':=Aside0.mk H
       clear H
       have hcz11_0:wr.cell? ⟨gb110,0,none⟩ = some (.string a0_0):=(blk_cell BK110.out 0).trans rfl
       have hcz11_1:wr.cell? ⟨gb110,1,none⟩ = some (.slice A0_1 l0_1.length c0_1):=(blk_cell BK110.out 1).trans rfl
       have hcz11_2:wr.cell? ⟨gb110,2,none⟩ = some (.bool a0_2):=(blk_cell BK110.out 2).trans rfl
       have hcz11_3:wr.cell? ⟨gb110,3,none⟩ = some (.string a0_3):=(blk_cell BK110.out 3).trans rfl
       have hfz11_0:=blk_frozen BK110.out 0
       have hfz11_1:=blk_frozen BK110.out 1
       have hfz11_2:=blk_frozen BK110.out 2
       have hfz11_3:=blk_frozen BK110.out 3
       have p112:0 ≤ (x4_1:Int):=of_decide_eq_true (by first|(with_reducible assumption)|assumption)
       have q112:x4_1 < (l0_1.length:Int):=of_decide_eq_true (by first|(with_reducible assumption)|assumption)
       obtain ⟨ad112,e112,hx112_0⟩:=Kd.at_string HR0_1.out x4_1 p112 q112
       cases e112
       replace hx112_0:=(HB.out.cell (World.block_lt_of_cell? w _ hx112_0)).trans hx112_0
       replace p112:=eq_true p112
       replace q112:=eq_true q112
       go_wp2
       go_roundg k1
       case measure=>have:=HK1.out;omega
       case rel=>exact ⟨(x3_1 ++ (rdOf ByteArray.empty l0_1 x4_1)),(wrap64 (x4_1 + 1)),(by first|rfl|(simp;done)|(simp only [i64_w,i32_w];done)|(simp only [i64_w,i32_w];rfl)|(simp [*];done)|(simp [emp_bne,emp_beq];done)),(by first|rfl|(simp;done)|(simp only [i64_w,i32_w];done)|(simp only [i64_w,i32_w];rfl)|(simp [*];done)|(simp [emp_bne,emp_beq];done)),H',⟨by have:=HK1.out;omega⟩,⟨by (with_reducible repeat (first|refine blk_drewN ?_ _|refine blk_drew ?_|refine blk_alloc ?_ _));exact BK110.out⟩,⟨by repeat (first|(with_reducible first|exact HB.out|apply below_alloc|apply pw_below_drewN|apply below_drew1|refine below_set ?_ GE110.out)|exact HB.out)⟩⟩
      ·rw [if_neg c10] at H
       exact absurd H (by simp)
     ·rw [if_neg c9] at H
      exact absurd H (by simp)
   ·rw [if_neg c3] at H
    have c3b0:decide (x4_1 < (l0_1.length:Int)) = false:=decide_eq_false c3
    clear c3
    by_cases c12:a0_2 = true
    ·subst c12
     have H1:(if x3_1.size + 1 ≤ 9223372036854775807 then (if (x3_1 ++ (⟨#[63]⟩:ByteArray)).size + a0_3.size ≤ 9223372036854775807 then (some ((x3_1 ++ (⟨#[63]⟩:ByteArray)) ++ a0_3)) else (none)) else (none)) = some r:=by rw [if_pos rfl] at H;exact H
     clear H
     have H:=H1
     clear H1
     by_cases c13:x3_1.size + 1 ≤ 9223372036854775807
     ·rw [if_pos c13] at H
      have c13b0:=eq_true c13
      have c13b1:=decide_eq_true c13
      try have c13b2:(9223372036854775807 < x3_1.size + 1) = False:=eq_false (Nat.not_lt.2 c13)
      by_cases c14:(x3_1 ++ (⟨#[63]⟩:ByteArray)).size + a0_3.size ≤ 9223372036854775807
      ·rw [if_pos c14] at H
       have c14b0:=eq_true c14
       have c14b1:=decide_eq_true c14
       try have c14b3:(9223372036854775807 < x3_1.size + 1 + a0_3.size) = False:=eq_false (Nat.not_lt.2 (by have h_:=c14;simp only [ByteArray.size_append] at h_;exact h_))
       try have c14b2:(9223372036854775807 < (x3_1 ++ (⟨#[63]⟩:ByteArray)).size + a0_3.size) = False:=eq_false (Nat.not_lt.2 c14)
       obtain rfl:=Option.some.inj H
       have hcz15_0:wr.cell? ⟨gb110,0,none⟩ = some (.string a0_0):=(blk_cell BK110.out 0).trans rfl
       have hcz15_1:wr.cell? ⟨gb110,1,none⟩ = some (.slice A0_1 l0_1.length c0_1):=(blk_cell BK110.out 1).trans rfl
       have hcz15_2:wr.cell? ⟨gb110,2,none⟩ = some (.bool true):=(blk_cell BK110.out 2).trans rfl
       have hcz15_3:wr.cell? ⟨gb110,3,none⟩ = some (.string a0_3):=(blk_cell BK110.out 3).trans rfl
       have hfz15_0:=blk_frozen BK110.out 0
       have hfz15_1:=blk_frozen BK110.out 1
       have hfz15_2:=blk_frozen BK110.out 2
       have hfz15_3:=blk_frozen BK110.out 3
       go_wp2
       go_ret
       exact ⟨by first|rfl|(simp <;> rfl)|(simp [*] <;> rfl),by repeat (first|(with_reducible first|exact HB.out|apply below_alloc|apply pw_below_drewN|apply below_drew1|refine below_set ?_ GE110.out)|exact HB.out)⟩
      ·rw [if_neg c14] at H
       exact absurd H (by simp)
     ·rw [if_neg c13] at H
      exact absurd H (by simp)
    ·replace c12:=Bool.eq_false_iff.mpr c12
     subst c12
     have H1:(some x3_1) = some r:=by rw [if_neg (show ¬ (false = true) by decide)] at H;exact H
     clear H
     have H:=H1
     clear H1
     obtain rfl:=Option.some.inj H
     have hcz16_0:wr.cell? ⟨gb110,0,none⟩ = some (.string a0_0):=(blk_cell BK110.out 0).trans rfl
     have hcz16_1:wr.cell? ⟨gb110,1,none⟩ = some (.slice A0_1 l0_1.length c0_1):=(blk_cell BK110.out 1).trans rfl
     have hcz16_2:wr.cell? ⟨gb110,2,none⟩ = some (.bool false):=(blk_cell BK110.out 2).trans rfl
     have hcz16_3:wr.cell? ⟨gb110,3,none⟩ = some (.string a0_3):=(blk_cell BK110.out 3).trans rfl
     have hfz16_0:=blk_frozen BK110.out 0
     have hfz16_1:=blk_frozen BK110.out 1
     have hfz16_2:=blk_frozen BK110.out 2
     have hfz16_3:=blk_frozen BK110.out 3
     go_wp2
     go_ret
     exact ⟨by first|rfl|(simp <;> rfl)|(simp [*] <;> rfl),by repeat (first|(with_reducible first|exact HB.out|apply below_alloc|apply pw_below_drewN|apply below_drew1|refine below_set ?_ GE110.out)|exact HB.out)⟩

/-! ### spec_l1Text: function 30 -/
def spec_l1Text.f (k:Nat) (a0_0:ByteArray) (l0_1:List ByteArray) (a0_2:Bool) (a0_3:ByteArray):Option (ByteArray):=if 2 + a0_0.size ≤ 9223372036854775807 then ((spec_l1Path.f k a0_0 l0_1 a0_2 a0_3).bind fun t114=>(if ((⟨#[47,47]⟩:ByteArray) ++ a0_0).size + t114.size ≤ 9223372036854775807 then (some (((⟨#[47,47]⟩:ByteArray) ++ a0_0) ++ t114)) else (none))) else (none)
theorem spec_l1Text.mono:∀ a0 a1 a2 a3 k,LeO (spec_l1Text.f k a0 a1 a2 a3) (spec_l1Text.f (k + 1) a0 a1 a2 a3):=by
 intro a0 a1 a2 a3 k
 unfold spec_l1Text.f
 repeat' first
   | (with_reducible exact spec_l1Path.mono _ _ _ _ _)
   | (with_reducible exact LeO.refl _)
   | (with_reducible exact LeO.none _)
   | (with_reducible refine LeO.ite ?_ ?_)
   | (with_reducible refine LeO.bind ?_ (fun _=>?_))
   | exact spec_l1Path.mono _ _ _ _ _
   | exact LeO.none _
   | refine LeO.ite ?_ ?_
   | refine LeO.bind ?_ (fun _=>?_)
theorem spec_l1Text.calls (k:Nat) (a0_0:ByteArray) (A0_1:Option Addr) (c0_1:Nat) (l0_1:List ByteArray) (a0_2:Bool) (a0_3:ByteArray) (r:ByteArray) (w:World) (hr0_1:Kd.C Kd.string w A0_1 l0_1.length l0_1) (hc0_1:l0_1.length ≤ c0_1) (h:spec_l1Text.f k a0_0 l0_1 a0_2 a0_3 = some r) :
  Calls Tryd.prog 30 #[.agg #[.string a0_0, .slice A0_1 l0_1.length c0_1, .bool a0_2, .string a0_3]] w fun e w'=>e = .returned (.string r) ∧ Below w.heap.size w w':=by
 have hu24:=Tryd.underlying24
 have HR0_1:=Aside0.mk hr0_1
 have HC0_1:=Aside0.mk hc0_1
 clear hr0_1 hc0_1
 have HB:=Aside0.mk (Below.refl w.heap.size w)
 have H:(if 2 + a0_0.size ≤ 9223372036854775807 then ((spec_l1Path.f k a0_0 l0_1 a0_2 a0_3).bind fun t114=>(if ((⟨#[47,47]⟩:ByteArray) ++ a0_0).size + t114.size ≤ 9223372036854775807 then (some (((⟨#[47,47]⟩:ByteArray) ++ a0_0) ++ t114)) else (none))) else (none)) = some r:=h
 clear h
 by_cases c2:2 + a0_0.size ≤ 9223372036854775807
 ·rw [if_pos c2] at H
  have c2b0:=eq_true c2
  have c2b1:=decide_eq_true c2
  try have c2b2:(9223372036854775807 < 2 + a0_0.size) = False:=eq_false (Nat.not_lt.2 c2)
  replace H:=Option.bind_eq_some_iff.mp H
  obtain ⟨t114,A30,H⟩:=H
  replace H:(if ((⟨#[47,47]⟩:ByteArray) ++ a0_0).size + t114.size ≤ 9223372036854775807 then (some (((⟨#[47,47]⟩:ByteArray) ++ a0_0) ++ t114)) else (none)) = some r:=H
  have A3:=Aside0.mk A30
  clear A30
  by_cases c4:((⟨#[47,47]⟩:ByteArray) ++ a0_0).size + t114.size ≤ 9223372036854775807
  ·rw [if_pos c4] at H
   have c4b0:=eq_true c4
   have c4b1:=decide_eq_true c4
   try have c4b3:(9223372036854775807 < 2 + a0_0.size + t114.size) = False:=eq_false (Nat.not_lt.2 (by have h_:=c4;simp only [ByteArray.size_append] at h_;exact h_))
   try have c4b2:(9223372036854775807 < ((⟨#[47,47]⟩:ByteArray) ++ a0_0).size + t114.size) = False:=eq_false (Nat.not_lt.2 c4)
   obtain rfl:=Option.some.inj H
   go_enter Tryd.func30,Tryd.ntmps30
   try go_wp2_with (first|((with_reducible refine gate_dst (N:=1) rfl ?_);refine box_event ?hg (N:=1) ?hd (cs:=#[.string a0_0, .slice A0_1 l0_1.length c0_1, .bool a0_2, .string a0_3]) (t:=24) ?hr ?_;(case hd=>rfl);(case hg=>rfl);(case hr=>first|(go_simp;done)|(go_simp;rfl));intro gb113 hg w5 hbox hb;have n0_:=Aside0.mk (below_step (by repeat (first|(with_reducible first|exact HB.out|apply below_alloc|apply pw_below_drewN|apply below_drew1)|exact HB.out)) hb);have n1_:=Aside0.mk (hbox);have n2_:=Aside0.mk ((by rw [hg];exact (below_size (by repeat (first|(with_reducible first|exact HB.out|apply below_alloc|apply pw_below_drewN|apply below_drew1)|exact HB.out))):w.heap.size ≤ gb113));have n3_:=n2_;clear HB;have HB:=n0_;have BK113:=n1_;have GW113:=n2_;have GE113:=n3_;clear n0_ n1_ n2_ n3_;clear hb hbox hg))
   have n0_:=Aside0.mk (blk_drew BK113.out)
   have n1_:=Aside0.mk (below_drew1 HB.out)
   clear BK113
   clear HB
   have BK113:=n0_
   have HB:=n1_
   clear n0_ n1_
   refine start_ (n:=7) (S:=fun w'=>w'.cell? ⟨gb113,0,none⟩ = some (.string a0_0) ∧ w'.cell? ⟨gb113,1,none⟩ = some (.slice A0_1 l0_1.length c0_1) ∧ w'.cell? ⟨gb113,2,none⟩ = some (.bool a0_2) ∧ w'.cell? ⟨gb113,3,none⟩ = some (.string a0_3)) (ds:=[]) #[false,false,false,false,false,false,false] (by kernel_rfl) rfl rfl ⟨(blk_cell BK113.out 0).trans rfl,(blk_cell BK113.out 1).trans rfl,(blk_cell BK113.out 2).trans rfl,(blk_cell BK113.out 3).trans rfl⟩ (fun hHeld=>?_)
   generalize w5.drew = w6 at BK113 HB hHeld ⊢
   refine pure_ (i:=0) (N:=some 3) (v:=?_) (a':=?_) #[true,false,false,false,false,false,false] rfl rfl (by kernel_rfl) (fun _ _ _ h=>h) (Or.inl ⟨by rfl,?_⟩) ?_ ?_
   rotate_left
   ·intro w'
    go_simp
    with_reducible rfl
   rotate_left
   ·simp only [Act.put,List.setIfInBounds_toArray,List.set_cons_zero,List.set_cons_succ,i64_w,i32_w]
    rfl
   refine take_ (i:=1) (N:=some 4) (v:=?_) (a':=?_) #[true,true,false,false,false,false,false] rfl rfl (by kernel_rfl) (fun _ _ _ h=>h) (Or.inl ⟨by rfl,?_⟩) hHeld ?_ ?_
   rotate_left
   ·rintro w' ⟨s0,s1,s2,s3⟩
    go_simp
    with_reducible rfl
   rotate_left
   ·simp only [Act.put,List.setIfInBounds_toArray,List.set_cons_zero,List.set_cons_succ,i64_w,i32_w]
    rfl
   refine pure_ (i:=2) (N:=some 5) (v:=?_) (a':=?_) #[true,true,true,false,false,false,false] rfl rfl (by kernel_rfl) (fun _ _ _ h=>h) (Or.inl ⟨by rfl,?_⟩) ?_ ?_
   rotate_left
   ·intro w'
    go_simp
    with_reducible rfl
   rotate_left
   ·simp only [Act.put,List.setIfInBounds_toArray,List.set_cons_zero,List.set_cons_succ,i64_w,i32_w]
    rfl
   refine take_ (i:=3) (N:=some 6) (v:=?_) (a':=?_) #[true,true,true,true,false,false,false] rfl rfl (by kernel_rfl) (fun _ _ _ h=>h) (Or.inl ⟨by rfl,?_⟩) hHeld ?_ ?_
   rotate_left
   ·rintro w' ⟨s0,s1,s2,s3⟩
    go_simp
    with_reducible rfl
   rotate_left
   ·simp only [Act.put,List.setIfInBounds_toArray,List.set_cons_zero,List.set_cons_succ,i64_w,i32_w]
    rfl
   refine one_ (i:=4) (N:=some 7) #[true,true,true,true,true,false,false] rfl rfl (by kernel_rfl) (by decide) (fun K hK=>?_)
   refine goes_ Tryd.func50 (by kernel_rfl) rfl #[.agg #[.string a0_0, .slice A0_1 l0_1.length c0_1, .bool a0_2, .string a0_3]] (by rfl) rfl rfl (by (try simp only [List.map_toArray,List.map_cons,List.map_nil]);first|done|rfl|(simp only [List.length_drop,List.length_take];rfl)) ?_
   with_reducible refine (spec_l1Path.calls k a0_0 _ _ l0_1 a0_2 a0_3 t114 _ ?side1 ?side2 A3.out).mono ?_
   (case side1=>repeat (first|exact (Kd.C_below HR0_1.out HB.out)|(with_reducible refine Kd.C_alloc ?_ _)|(with_reducible refine Kd.C_drewN ?_ _)|(with_reducible refine Kd.C_drew ?_)))
   (case side2=>exact HC0_1.out)
   rintro e w7 ⟨rfl,hb⟩
   refine ⟨_,rfl,?_⟩
   have n0_:=Aside0.mk (blk_below (g:=gb113) (o:=.cells #[.string a0_0, .slice A0_1 l0_1.length c0_1, .bool a0_2, .string a0_3] 24 (0,0)) (by (with_reducible repeat (first|refine blk_drewN ?_ _|refine blk_drew ?_|refine blk_alloc ?_ _));exact BK113.out) hb)
   have n1_:=Aside0.mk (below_step (by repeat (first|(with_reducible first|exact HB.out|apply below_alloc|apply pw_below_drewN|apply below_drew1|refine below_set ?_ GE113.out)|exact HB.out)) hb)
   clear BK113
   clear HB
   have BK113:=n0_
   have HB:=n1_
   clear n0_ n1_
   (try clear hb)
   (try clear hb2)
   (try clear hk)
   (try clear hi)
   refine hK.out _ _ ⟨(blk_cell BK113.out 0).trans rfl,(blk_cell BK113.out 1).trans rfl,(blk_cell BK113.out 2).trans rfl,(blk_cell BK113.out 3).trans rfl⟩ (fun hHeld=>?_)
   clear hK K
   refine norm_ (a':=?_) ?_ ?_
   rotate_left
   ·show Act.put _ (some 7) _ = _
    simp only [Act.put,List.setIfInBounds_toArray,List.set_cons_zero,List.set_cons_succ,i64_w,i32_w]
    rfl
   refine pure_ (i:=5) (N:=some 8) (v:=?_) (a':=?_) #[true,true,true,true,true,true,false] rfl rfl (by kernel_rfl) (fun _ _ _ h=>h) (Or.inl ⟨by rfl,?_⟩) ?_ ?_
   rotate_left
   ·intro w'
    go_simp
    with_reducible rfl
   rotate_left
   ·simp only [Act.put,List.setIfInBounds_toArray,List.set_cons_zero,List.set_cons_succ,i64_w,i32_w]
    rfl
   refine pure_ (i:=6) (N:=some 2) (v:=?_) (a':=?_) #[true,true,true,true,true,true,true] rfl rfl (by kernel_rfl) (fun _ _ _ h=>h) (Or.inl ⟨by rfl,?_⟩) ?_ ?_
   rotate_left
   ·intro w'
    go_simp
    with_reducible rfl
   rotate_left
   ·simp only [Act.put,List.setIfInBounds_toArray,List.set_cons_zero,List.set_cons_succ,i64_w,i32_w]
    rfl
   refine done_ (by kernel_rfl) ?_
   try go_wp2
   go_ret
   exact ⟨by first|rfl|(simp <;> rfl)|(simp [*] <;> rfl),by repeat (first|(with_reducible first|exact HB.out|apply below_alloc|apply pw_below_drewN|apply below_drew1|refine below_set ?_ GE113.out)|exact HB.out)⟩
  ·rw [if_neg c4] at H
   exact absurd H (by simp)
 ·rw [if_neg c2] at H
  exact absurd H (by simp)

/-! ### spec_l6In: function 67 -/
def spec_l6In.f (a0:Int) (a1:Int) (a2:Int):Option (Bool):=if a0 ≥ a1 then (some (decide (a0 ≤ a2))) else (some false)
theorem spec_l6In.calls (a0:Int) (a1:Int) (a2:Int) (r:Bool) (w:World) (h:spec_l6In.f a0 a1 a2 = some r) :
  Calls Tryd.prog 67 #[.int .i64 a0, .int .i64 a1, .int .i64 a2] w fun e w'=>e = .returned (.bool r) ∧ Drawn0 w w':=by
 have H:(if a0 ≥ a1 then (some (decide (a0 ≤ a2))) else (some false)) = some r:=h
 clear h
 by_cases c4:a0 ≥ a1
 ·rw [if_pos c4] at H
  have c4b0:decide (a1 ≤ a0) = true:=decide_eq_true c4
  clear c4
  obtain rfl:=Option.some.inj H
  go_enter Tryd.func67,Tryd.ntmps67
  go_wp2
  go_ret
  exact ⟨by first|rfl|(simp;done)|(simp only [i64_w,i32_w];done)|(simp only [i64_w,i32_w];rfl)|(simp [*];done)|(simp [emp_bne,emp_beq];done),by repeat (first|exact Drawn0.refl _|apply Drawn0.step)⟩
 ·rw [if_neg c4] at H
  have c4b0:decide (a1 ≤ a0) = false:=decide_eq_false c4
  clear c4
  obtain rfl:=Option.some.inj H
  go_enter Tryd.func67,Tryd.ntmps67
  go_wp2
  go_ret
  exact ⟨by first|rfl|(simp;done)|(simp only [i64_w,i32_w];done)|(simp only [i64_w,i32_w];rfl)|(simp [*];done)|(simp [emp_bne,emp_beq];done),by repeat (first|exact Drawn0.refl _|apply Drawn0.step)⟩

/-! ### spec_l1House: function 48 -/
def spec_l1House.l0:Nat → ByteArray → Int → Option (Bool)
 | 0,_,_=>none
 | k + 1,x0,x3=>if x3 < (x0.size:Int) then (if 0 ≤ x3 then (if (bt x0 x3) < 97 then (some false) else (if (bt x0 x3) > 122 then (some false) else (spec_l1House.l0 k x0 (wrap64 (x3 + 1))))) else (none)) else ((spec_l6In.f (x0.size:Int) 1 5).bind fun t115=>(some t115))
def spec_l1House.f (k:Nat) (a0:ByteArray):Option (Bool):=spec_l1House.l0 k a0 0
theorem spec_l1House.mono_l:∀ k,(∀ y0 y1,LeO (spec_l1House.l0 k y0 y1) (spec_l1House.l0 (k + 1) y0 y1))
 | 0=>fun _ _ r h=>by simp [spec_l1House.l0] at h
 | k + 1=>by
  have ih0:=spec_l1House.mono_l k
  ·intro y0 y1
   unfold spec_l1House.l0
   repeat' first
   | (with_reducible exact ih0 _ _)
   | (with_reducible exact LeO.refl _)
   | (with_reducible exact LeO.none _)
   | (with_reducible refine LeO.ite ?_ ?_)
   | (with_reducible refine LeO.bind ?_ (fun _=>?_))
   | exact ih0 _ _
   | exact LeO.none _
   | refine LeO.ite ?_ ?_
   | refine LeO.bind ?_ (fun _=>?_)
theorem spec_l1House.mono:∀ a0 k,LeO (spec_l1House.f k a0) (spec_l1House.f (k + 1) a0):=by
 intro a0 k
 have ih0:=spec_l1House.mono_l k
 unfold spec_l1House.f
 repeat' first
   | (with_reducible exact ih0 _ _)
   | (with_reducible exact LeO.refl _)
   | (with_reducible exact LeO.none _)
   | (with_reducible refine LeO.ite ?_ ?_)
   | (with_reducible refine LeO.bind ?_ (fun _=>?_))
   | exact ih0 _ _
   | exact LeO.none _
   | refine LeO.ite ?_ ?_
   | refine LeO.bind ?_ (fun _=>?_)
theorem spec_l1House.calls (k:Nat) (a0:ByteArray) (r:Bool) (w:World) (h:spec_l1House.f k a0 = some r) :
  Calls Tryd.prog 48 #[.string a0] w fun e w'=>e = .returned (.bool r) ∧ Drawn0 w w':=by
 have H:(spec_l1House.l0 k a0 0) = some r:=h
 clear h
 have H':=Aside0.mk H
 clear H
 go_enter Tryd.func48,Tryd.ntmps48
 go_wp2
 go_loopg [3] k (fun kq v3 w'=>∃ (x3_1:Int),v3 = .int .i64 x3_1 ∧ Aside0 (spec_l1House.l0 kq a0 x3_1 = some r) ∧ Aside0 (kq ≤ k) ∧ Drawn0 w w')
 case atStart=>exact ⟨(0),(by first|rfl|(simp;done)|(simp only [i64_w,i32_w];done)|(simp only [i64_w,i32_w];rfl)|(simp [*];done)|(simp [emp_bne,emp_beq];done)),H',⟨Nat.le_refl _⟩,by repeat (first|exact Drawn0.refl _|apply Drawn0.step)⟩
 case round =>
  clear H'
  obtain ⟨x3_1,rfl,HA,HK1,⟨m1,rfl⟩⟩:=hrel
  cases gk with
  | zero=>exact absurd HA.out (by simp [spec_l1House.l0])
  | succ k1 =>
   have H:=HA.out
   clear HA
   simp only [spec_l1House.l0] at H
   by_cases c2:x3_1 < (a0.size:Int)
   ·rw [if_pos c2] at H
    have c2b0:decide (x3_1 < (a0.size:Int)) = true:=decide_eq_true c2
    clear c2
    by_cases c3:0 ≤ x3_1
    ·rw [if_pos c3] at H
     have c3b0:decide (0 ≤ x3_1) = true:=decide_eq_true c3
     clear c3
     by_cases c5:(bt a0 x3_1) < 97
     ·rw [if_pos c5] at H
      have c5b0:decide ((bt a0 x3_1) < 97) = true:=decide_eq_true c5
      clear c5
      obtain rfl:=Option.some.inj H
      have p4:0 ≤ (x3_1:Int):=of_decide_eq_true (by first|(with_reducible assumption)|assumption)
      have q4:x3_1 < (a0.size:Int):=of_decide_eq_true (by first|(with_reducible assumption)|assumption)
      have hx4:=bt_at a0 x3_1
      replace p4:=eq_true p4
      replace q4:=eq_true q4
      go_wp2
      go_ret
      exact ⟨by first|rfl|(simp;done)|(simp only [i64_w,i32_w];done)|(simp only [i64_w,i32_w];rfl)|(simp [*];done)|(simp [emp_bne,emp_beq];done),by repeat (first|exact Drawn0.refl _|apply Drawn0.step)⟩
     ·rw [if_neg c5] at H
      have c5b0:decide ((bt a0 x3_1) < 97) = false:=decide_eq_false c5
      clear c5
      by_cases c7:(bt a0 x3_1) > 122
      ·rw [if_pos c7] at H
       have c7b0:decide (122 < (bt a0 x3_1)) = true:=decide_eq_true c7
       clear c7
       obtain rfl:=Option.some.inj H
       have p4:0 ≤ (x3_1:Int):=of_decide_eq_true (by first|(with_reducible assumption)|assumption)
       have q4:x3_1 < (a0.size:Int):=of_decide_eq_true (by first|(with_reducible assumption)|assumption)
       have hx4:=bt_at a0 x3_1
       replace p4:=eq_true p4
       replace q4:=eq_true q4
       have p6:0 ≤ (x3_1:Int):=of_decide_eq_true (by first|(with_reducible assumption)|assumption)
       have q6:x3_1 < (a0.size:Int):=of_decide_eq_true (by first|(with_reducible assumption)|assumption)
       have hx6:=bt_at a0 x3_1
       replace p6:=eq_true p6
       replace q6:=eq_true q6
       go_wp2
       go_ret
       exact ⟨by first|rfl|(simp;done)|(simp only [i64_w,i32_w];done)|(simp only [i64_w,i32_w];rfl)|(simp [*];done)|(simp [emp_bne,emp_beq];done),by repeat (first|exact Drawn0.refl _|apply Drawn0.step)⟩
      ·rw [if_neg c7] at H
       have c7b0:decide (122 < (bt a0 x3_1)) = false:=decide_eq_false c7
       clear c7
       have H':=Aside0.mk H
       clear H
       have p4:0 ≤ (x3_1:Int):=of_decide_eq_true (by first|(with_reducible assumption)|assumption)
       have q4:x3_1 < (a0.size:Int):=of_decide_eq_true (by first|(with_reducible assumption)|assumption)
       have hx4:=bt_at a0 x3_1
       replace p4:=eq_true p4
       replace q4:=eq_true q4
       have p6:0 ≤ (x3_1:Int):=of_decide_eq_true (by first|(with_reducible assumption)|assumption)
       have q6:x3_1 < (a0.size:Int):=of_decide_eq_true (by first|(with_reducible assumption)|assumption)
       have hx6:=bt_at a0 x3_1
       replace p6:=eq_true p6
       replace q6:=eq_true q6
       go_wp2
       go_roundg k1
       case measure=>have:=HK1.out;omega
       case rel=>exact ⟨(wrap64 (x3_1 + 1)),(by first|rfl|(simp;done)|(simp only [i64_w,i32_w];done)|(simp only [i64_w,i32_w];rfl)|(simp [*];done)|(simp [emp_bne,emp_beq];done)),H',⟨by have:=HK1.out;omega⟩,by repeat (first|exact Drawn0.refl _|apply Drawn0.step)⟩
    ·rw [if_neg c3] at H
     exact absurd H (by simp)
   ·rw [if_neg c2] at H
    have c2b0:decide (x3_1 < (a0.size:Int)) = false:=decide_eq_false c2
    clear c2
    replace H:=Option.bind_eq_some_iff.mp H
    obtain ⟨t115,A80,H⟩:=H
    replace H:(some t115) = some r:=H
    have A8:=Aside0.mk A80
    clear A80
    obtain rfl:=Option.some.inj H
    go_wp2_with (first|((with_reducible refine gate_callee (f:=67) rfl ?_);refine goesL_ (some 22) rfl rfl Tryd.func67 (by kernel_rfl) rfl #[.int .i64 (a0.size:Int), .int .i64 1, .int .i64 5] rfl (by (try simp only [List.map_toArray,List.map_cons,List.map_nil]);first|done|rfl|(simp only [List.length_drop,List.length_take];rfl)) ?_;(with_reducible refine (spec_l6In.calls (a0.size:Int) 1 5 t115 _ A8.out).mono ?_);rintro e w' ⟨rfl,⟨nd,rfl⟩⟩;refine ⟨_,rfl,?_⟩))
    go_ret
    exact ⟨by first|rfl|(simp;done)|(simp only [i64_w,i32_w];done)|(simp only [i64_w,i32_w];rfl)|(simp [*];done)|(simp [emp_bne,emp_beq];done),by repeat (first|exact Drawn0.refl _|apply Drawn0.step)⟩

/-! ### spec_l1Hex: function 70 -/
mutual
def spec_l1Hex.j0:Nat → Int → Bool → Option (Int)
 | 0,_,_=>none
 | k + 1,x0,x3=>if x3 = true then (some ((x0 - 48) % 256)) else (if x0 ≥ 97 then (spec_l1Hex.j1 k x0 (decide (x0 ≤ 102))) else (spec_l1Hex.j1 k x0 false))
def spec_l1Hex.j1:Nat → Int → Bool → Option (Int)
 | 0,_,_=>none
 | k + 1,x0,x13=>if x13 = true then (some (((x0 - 97) % 256) + 10)) else (if x0 ≥ 65 then (if x0 ≤ 70 then (some (((x0 - 65) % 256) + 10)) else (some (-1))) else (some (-1)))
end
def spec_l1Hex.f (k:Nat) (a0:Int):Option (Int):=if a0 ≥ 48 then (spec_l1Hex.j0 k a0 (decide (a0 ≤ 57))) else (spec_l1Hex.j0 k a0 false)
theorem spec_l1Hex.mono_l:∀ k,(∀ y0 y1,LeO (spec_l1Hex.j0 k y0 y1) (spec_l1Hex.j0 (k + 1) y0 y1)) ∧ (∀ y0 y1,LeO (spec_l1Hex.j1 k y0 y1) (spec_l1Hex.j1 (k + 1) y0 y1))
 | 0=>⟨fun _ _ r h=>by simp [spec_l1Hex.j0] at h,fun _ _ r h=>by simp [spec_l1Hex.j1] at h⟩
 | k + 1=>by
  obtain ⟨ih0,ih1⟩:=spec_l1Hex.mono_l k
  refine ⟨?_,?_⟩
  ·intro y0 y1
   unfold spec_l1Hex.j0
   repeat' first
   | (with_reducible exact ih0 _ _)
   | (with_reducible exact ih1 _ _)
   | (with_reducible exact LeO.refl _)
   | (with_reducible exact LeO.none _)
   | (with_reducible refine LeO.ite ?_ ?_)
   | (with_reducible refine LeO.bind ?_ (fun _=>?_))
   | exact ih0 _ _
   | exact ih1 _ _
   | exact LeO.none _
   | refine LeO.ite ?_ ?_
   | refine LeO.bind ?_ (fun _=>?_)
  ·intro y0 y1
   unfold spec_l1Hex.j1
   repeat' first
   | (with_reducible exact ih0 _ _)
   | (with_reducible exact ih1 _ _)
   | (with_reducible exact LeO.refl _)
   | (with_reducible exact LeO.none _)
   | (with_reducible refine LeO.ite ?_ ?_)
   | (with_reducible refine LeO.bind ?_ (fun _=>?_))
   | exact ih0 _ _
   | exact ih1 _ _
   | exact LeO.none _
   | refine LeO.ite ?_ ?_
   | refine LeO.bind ?_ (fun _=>?_)
theorem spec_l1Hex.mono:∀ a0 k,LeO (spec_l1Hex.f k a0) (spec_l1Hex.f (k + 1) a0):=by
 intro a0 k
 obtain ⟨ih0,ih1⟩:=spec_l1Hex.mono_l k
 unfold spec_l1Hex.f
 repeat' first
   | (with_reducible exact ih0 _ _)
   | (with_reducible exact ih1 _ _)
   | (with_reducible exact LeO.refl _)
   | (with_reducible exact LeO.none _)
   | (with_reducible refine LeO.ite ?_ ?_)
   | (with_reducible refine LeO.bind ?_ (fun _=>?_))
   | exact ih0 _ _
   | exact ih1 _ _
   | exact LeO.none _
   | refine LeO.ite ?_ ?_
   | refine LeO.bind ?_ (fun _=>?_)
theorem spec_l1Hex.calls (k:Nat) (a0:Int) (r:Int) (w:World) (h:spec_l1Hex.f k a0 = some r) :
  Calls Tryd.prog 70 #[.int .u8 a0] w fun e w'=>e = .returned (.int .i64 r) ∧ Drawn0 w w':=by
 have H:(if a0 ≥ 48 then (spec_l1Hex.j0 k a0 (decide (a0 ≤ 57))) else (spec_l1Hex.j0 k a0 false)) = some r:=h
 clear h
 have HC2:=Aside0.mk H
 clear H
 go_enter Tryd.func70,Tryd.ntmps70
 go_upto_region 1 with (fail)
 go_cut [3] (fun v3 wc=>∃ (kq:Nat) (x3_1:Bool),v3 = .bool x3_1 ∧ Aside0 (spec_l1Hex.j0 kq a0 x3_1 = some r) ∧ Aside0 (kq ≤ k) ∧ Drawn0 w wc)
 case first =>
  have H:=HC2.out
  clear HC2
  by_cases c3:a0 ≥ 48
  ·rw [if_pos c3] at H
   have c3b0:decide (48 ≤ a0) = true:=decide_eq_true c3
   clear c3
   (first|rw [c3b0]|(simp only [i64_w,i32_w];rw [c3b0])|skip)
   have H':=Aside0.mk H
   clear H
   go_wp2
   go_meet
   case rel=>exact ⟨_,(decide (a0 ≤ 57)),(by first|rfl|(simp;done)|(simp only [i64_w,i32_w];done)|(simp only [i64_w,i32_w];rfl)|(simp [*];done)|(simp [emp_bne,emp_beq];done)),H',⟨by first|omega|exact Nat.le_refl _⟩,by repeat (first|exact Drawn0.refl _|apply Drawn0.step)⟩
  ·rw [if_neg c3] at H
   have c3b0:decide (48 ≤ a0) = false:=decide_eq_false c3
   clear c3
   (first|rw [c3b0]|(simp only [i64_w,i32_w];rw [c3b0])|skip)
   have H':=Aside0.mk H
   clear H
   go_wp2
   go_meet
   case rel=>exact ⟨_,(false),(by first|rfl|(simp;done)|(simp only [i64_w,i32_w];done)|(simp only [i64_w,i32_w];rfl)|(simp [*];done)|(simp [emp_bne,emp_beq];done)),H',⟨by first|omega|exact Nat.le_refl _⟩,by repeat (first|exact Drawn0.refl _|apply Drawn0.step)⟩
 case rest =>
  clear HC2
  try clear p2
  try clear c3
  try clear c3b0
  obtain ⟨kq,x3_1,rfl,HA,HJ1,⟨mc1,rfl⟩⟩:=hcut
  cases kq with
  | zero=>exact absurd HA.out (by simp [spec_l1Hex.j0])
  | succ kj1 =>
   have H:=HA.out
   clear HA
   simp only [spec_l1Hex.j0] at H
   by_cases c4:x3_1 = true
   ·subst c4
    have H1:(some ((a0 - 48) % 256)) = some r:=by rw [if_pos rfl] at H;exact H
    clear H
    have H:=H1
    clear H1
    obtain rfl:=Option.some.inj H
    go_wp2
    go_ret
    exact ⟨by first|rfl|(simp;done)|(simp only [i64_w,i32_w];done)|(simp only [i64_w,i32_w];rfl)|(simp [*];done)|(simp [emp_bne,emp_beq];done),by repeat (first|exact Drawn0.refl _|apply Drawn0.step)⟩
   ·replace c4:=Bool.eq_false_iff.mpr c4
    subst c4
    have H1:(if a0 ≥ 97 then (spec_l1Hex.j1 kj1 a0 (decide (a0 ≤ 102))) else (spec_l1Hex.j1 kj1 a0 false)) = some r:=by rw [if_neg (show ¬ (false = true) by decide)] at H;exact H
    clear H
    have H:=H1
    clear H1
    have HC5:=Aside0.mk H
    clear H
    go_upto_region 3 with (fail)
    go_cut [13] (fun v13 wc=>∃ (kq:Nat) (x13_4:Bool),v13 = .bool x13_4 ∧ Aside0 (spec_l1Hex.j1 kq a0 x13_4 = some r) ∧ Aside0 (kq ≤ kj1) ∧ Drawn0 w wc)
    case first =>
     have H:=HC5.out
     clear HC5
     by_cases c6:a0 ≥ 97
     ·rw [if_pos c6] at H
      have c6b0:decide (97 ≤ a0) = true:=decide_eq_true c6
      clear c6
      (first|rw [c6b0]|(simp only [i64_w,i32_w];rw [c6b0])|skip)
      have H':=Aside0.mk H
      clear H
      go_wp2
      go_meet
      case rel=>exact ⟨_,(decide (a0 ≤ 102)),(by first|rfl|(simp;done)|(simp only [i64_w,i32_w];done)|(simp only [i64_w,i32_w];rfl)|(simp [*];done)|(simp [emp_bne,emp_beq];done)),H',⟨by have:=HJ1.out;first|omega|exact Nat.le_refl _⟩,by repeat (first|exact Drawn0.refl _|apply Drawn0.step)⟩
     ·rw [if_neg c6] at H
      have c6b0:decide (97 ≤ a0) = false:=decide_eq_false c6
      clear c6
      (first|rw [c6b0]|(simp only [i64_w,i32_w];rw [c6b0])|skip)
      have H':=Aside0.mk H
      clear H
      go_wp2
      go_meet
      case rel=>exact ⟨_,(false),(by first|rfl|(simp;done)|(simp only [i64_w,i32_w];done)|(simp only [i64_w,i32_w];rfl)|(simp [*];done)|(simp [emp_bne,emp_beq];done)),H',⟨by have:=HJ1.out;first|omega|exact Nat.le_refl _⟩,by repeat (first|exact Drawn0.refl _|apply Drawn0.step)⟩
    case rest =>
     clear HC5
     try clear c1
     try clear p2
     try clear c3
     try clear c3b0
     try clear c4
     try clear c6
     try clear c6b0
     try clear p2
     obtain ⟨kq,x13_4,rfl,HA,HJ4,⟨mc4,rfl⟩⟩:=hcut
     cases kq with
     | zero=>exact absurd HA.out (by simp [spec_l1Hex.j1])
     | succ kj4 =>
      have H:=HA.out
      clear HA
      simp only [spec_l1Hex.j1] at H
      by_cases c7:x13_4 = true
      ·subst c7
       have H1:(some (((a0 - 97) % 256) + 10)) = some r:=by rw [if_pos rfl] at H;exact H
       clear H
       have H:=H1
       clear H1
       obtain rfl:=Option.some.inj H
       go_wp2
       go_ret
       exact ⟨by first|rfl|(simp;done)|(simp only [i64_w,i32_w];done)|(simp only [i64_w,i32_w];rfl)|(simp [*];done)|(simp [emp_bne,emp_beq];done),by repeat (first|exact Drawn0.refl _|apply Drawn0.step)⟩
      ·replace c7:=Bool.eq_false_iff.mpr c7
       subst c7
       have H1:(if a0 ≥ 65 then (if a0 ≤ 70 then (some (((a0 - 65) % 256) + 10)) else (some (-1))) else (some (-1))) = some r:=by rw [if_neg (show ¬ (false = true) by decide)] at H;exact H
       clear H
       have H:=H1
       clear H1
       by_cases c8:a0 ≥ 65
       ·rw [if_pos c8] at H
        have c8b0:decide (65 ≤ a0) = true:=decide_eq_true c8
        clear c8
        by_cases c9:a0 ≤ 70
        ·rw [if_pos c9] at H
         have c9b0:decide (a0 ≤ 70) = true:=decide_eq_true c9
         clear c9
         obtain rfl:=Option.some.inj H
         go_wp2
         go_ret
         exact ⟨by first|rfl|(simp;done)|(simp only [i64_w,i32_w];done)|(simp only [i64_w,i32_w];rfl)|(simp [*];done)|(simp [emp_bne,emp_beq];done),by repeat (first|exact Drawn0.refl _|apply Drawn0.step)⟩
        ·rw [if_neg c9] at H
         have c9b0:decide (a0 ≤ 70) = false:=decide_eq_false c9
         clear c9
         obtain rfl:=Option.some.inj H
         go_wp2
         go_ret
         exact ⟨by first|rfl|(simp;done)|(simp only [i64_w,i32_w];done)|(simp only [i64_w,i32_w];rfl)|(simp [*];done)|(simp [emp_bne,emp_beq];done),by repeat (first|exact Drawn0.refl _|apply Drawn0.step)⟩
       ·rw [if_neg c8] at H
        have c8b0:decide (65 ≤ a0) = false:=decide_eq_false c8
        clear c8
        obtain rfl:=Option.some.inj H
        go_wp2
        go_ret
        exact ⟨by first|rfl|(simp;done)|(simp only [i64_w,i32_w];done)|(simp only [i64_w,i32_w];rfl)|(simp [*];done)|(simp [emp_bne,emp_beq];done),by repeat (first|exact Drawn0.refl _|apply Drawn0.step)⟩

/-! ### spec_l1Plain: function 71 -/
def spec_l1Plain.f (a0:Int):Option (Bool):=if a0 ≥ 97 then (if a0 ≤ 122 then (some true) else (if a0 ≥ 48 then (if a0 ≤ 57 then (some true) else (if a0 = 46 then (some true) else (some (a0 == 45)))) else (if a0 = 46 then (some true) else (some (a0 == 45))))) else (if a0 ≥ 48 then (if a0 ≤ 57 then (some true) else (if a0 = 46 then (some true) else (some (a0 == 45)))) else (if a0 = 46 then (some true) else (some (a0 == 45))))
theorem spec_l1Plain.calls (a0:Int) (r:Bool) (w:World) (h:spec_l1Plain.f a0 = some r) :
  Calls Tryd.prog 71 #[.int .u8 a0] w fun e w'=>e = .returned (.bool r) ∧ Drawn0 w w':=by
 have H:(if a0 ≥ 97 then (if a0 ≤ 122 then (some true) else (if a0 ≥ 48 then (if a0 ≤ 57 then (some true) else (if a0 = 46 then (some true) else (some (a0 == 45)))) else (if a0 = 46 then (some true) else (some (a0 == 45))))) else (if a0 ≥ 48 then (if a0 ≤ 57 then (some true) else (if a0 = 46 then (some true) else (some (a0 == 45)))) else (if a0 = 46 then (some true) else (some (a0 == 45))))) = some r:=h
 clear h
 by_cases c2:a0 ≥ 97
 ·rw [if_pos c2] at H
  have c2b0:decide (97 ≤ a0) = true:=decide_eq_true c2
  clear c2
  by_cases c3:a0 ≤ 122
  ·rw [if_pos c3] at H
   have c3b0:decide (a0 ≤ 122) = true:=decide_eq_true c3
   clear c3
   obtain rfl:=Option.some.inj H
   go_enter Tryd.func71,Tryd.ntmps71
   go_wp2
   go_ret
   exact ⟨by first|rfl|(simp;done)|(simp only [i64_w,i32_w];done)|(simp only [i64_w,i32_w];rfl)|(simp [*];done)|(simp [emp_bne,emp_beq];done),by repeat (first|exact Drawn0.refl _|apply Drawn0.step)⟩
  ·rw [if_neg c3] at H
   have c3b0:decide (a0 ≤ 122) = false:=decide_eq_false c3
   clear c3
   by_cases c4:a0 ≥ 48
   ·rw [if_pos c4] at H
    have c4b0:decide (48 ≤ a0) = true:=decide_eq_true c4
    clear c4
    by_cases c5:a0 ≤ 57
    ·rw [if_pos c5] at H
     have c5b0:decide (a0 ≤ 57) = true:=decide_eq_true c5
     clear c5
     obtain rfl:=Option.some.inj H
     go_enter Tryd.func71,Tryd.ntmps71
     go_wp2
     go_ret
     exact ⟨by first|rfl|(simp;done)|(simp only [i64_w,i32_w];done)|(simp only [i64_w,i32_w];rfl)|(simp [*];done)|(simp [emp_bne,emp_beq];done),by repeat (first|exact Drawn0.refl _|apply Drawn0.step)⟩
    ·rw [if_neg c5] at H
     have c5b0:decide (a0 ≤ 57) = false:=decide_eq_false c5
     clear c5
     by_cases c6:a0 = 46
     ·rw [if_pos c6] at H
      have c6b0:(a0 == 46) = true:=beq_iff_eq.mpr c6
      have c6b1:(a0 != 46) = false:=bne_eq_false_iff_eq.mpr c6
      clear c6
      obtain rfl:=Option.some.inj H
      go_enter Tryd.func71,Tryd.ntmps71
      go_wp2
      go_ret
      exact ⟨by first|rfl|(simp;done)|(simp only [i64_w,i32_w];done)|(simp only [i64_w,i32_w];rfl)|(simp [*];done)|(simp [emp_bne,emp_beq];done),by repeat (first|exact Drawn0.refl _|apply Drawn0.step)⟩
     ·rw [if_neg c6] at H
      have c6b0:(a0 == 46) = false:=beq_eq_false_iff_ne.mpr c6
      have c6b1:(a0 != 46) = true:=bne_iff_ne.mpr c6
      obtain rfl:=Option.some.inj H
      go_enter Tryd.func71,Tryd.ntmps71
      go_wp2
      go_ret
      exact ⟨by first|rfl|(simp;done)|(simp only [i64_w,i32_w];done)|(simp only [i64_w,i32_w];rfl)|(simp [*];done)|(simp [emp_bne,emp_beq];done),by repeat (first|exact Drawn0.refl _|apply Drawn0.step)⟩
   ·rw [if_neg c4] at H
    have c4b0:decide (48 ≤ a0) = false:=decide_eq_false c4
    clear c4
    by_cases c7:a0 = 46
    ·rw [if_pos c7] at H
     have c7b0:(a0 == 46) = true:=beq_iff_eq.mpr c7
     have c7b1:(a0 != 46) = false:=bne_eq_false_iff_eq.mpr c7
     clear c7
     obtain rfl:=Option.some.inj H
     go_enter Tryd.func71,Tryd.ntmps71
     go_wp2
     go_ret
     exact ⟨by first|rfl|(simp;done)|(simp only [i64_w,i32_w];done)|(simp only [i64_w,i32_w];rfl)|(simp [*];done)|(simp [emp_bne,emp_beq];done),by repeat (first|exact Drawn0.refl _|apply Drawn0.step)⟩
    ·rw [if_neg c7] at H
     have c7b0:(a0 == 46) = false:=beq_eq_false_iff_ne.mpr c7
     have c7b1:(a0 != 46) = true:=bne_iff_ne.mpr c7
     obtain rfl:=Option.some.inj H
     go_enter Tryd.func71,Tryd.ntmps71
     go_wp2
     go_ret
     exact ⟨by first|rfl|(simp;done)|(simp only [i64_w,i32_w];done)|(simp only [i64_w,i32_w];rfl)|(simp [*];done)|(simp [emp_bne,emp_beq];done),by repeat (first|exact Drawn0.refl _|apply Drawn0.step)⟩
 ·rw [if_neg c2] at H
  have c2b0:decide (97 ≤ a0) = false:=decide_eq_false c2
  clear c2
  by_cases c8:a0 ≥ 48
  ·rw [if_pos c8] at H
   have c8b0:decide (48 ≤ a0) = true:=decide_eq_true c8
   clear c8
   by_cases c9:a0 ≤ 57
   ·rw [if_pos c9] at H
    have c9b0:decide (a0 ≤ 57) = true:=decide_eq_true c9
    clear c9
    obtain rfl:=Option.some.inj H
    go_enter Tryd.func71,Tryd.ntmps71
    go_wp2
    go_ret
    exact ⟨by first|rfl|(simp;done)|(simp only [i64_w,i32_w];done)|(simp only [i64_w,i32_w];rfl)|(simp [*];done)|(simp [emp_bne,emp_beq];done),by repeat (first|exact Drawn0.refl _|apply Drawn0.step)⟩
   ·rw [if_neg c9] at H
    have c9b0:decide (a0 ≤ 57) = false:=decide_eq_false c9
    clear c9
    by_cases c10:a0 = 46
    ·rw [if_pos c10] at H
     have c10b0:(a0 == 46) = true:=beq_iff_eq.mpr c10
     have c10b1:(a0 != 46) = false:=bne_eq_false_iff_eq.mpr c10
     clear c10
     obtain rfl:=Option.some.inj H
     go_enter Tryd.func71,Tryd.ntmps71
     go_wp2
     go_ret
     exact ⟨by first|rfl|(simp;done)|(simp only [i64_w,i32_w];done)|(simp only [i64_w,i32_w];rfl)|(simp [*];done)|(simp [emp_bne,emp_beq];done),by repeat (first|exact Drawn0.refl _|apply Drawn0.step)⟩
    ·rw [if_neg c10] at H
     have c10b0:(a0 == 46) = false:=beq_eq_false_iff_ne.mpr c10
     have c10b1:(a0 != 46) = true:=bne_iff_ne.mpr c10
     obtain rfl:=Option.some.inj H
     go_enter Tryd.func71,Tryd.ntmps71
     go_wp2
     go_ret
     exact ⟨by first|rfl|(simp;done)|(simp only [i64_w,i32_w];done)|(simp only [i64_w,i32_w];rfl)|(simp [*];done)|(simp [emp_bne,emp_beq];done),by repeat (first|exact Drawn0.refl _|apply Drawn0.step)⟩
  ·rw [if_neg c8] at H
   have c8b0:decide (48 ≤ a0) = false:=decide_eq_false c8
   clear c8
   by_cases c11:a0 = 46
   ·rw [if_pos c11] at H
    have c11b0:(a0 == 46) = true:=beq_iff_eq.mpr c11
    have c11b1:(a0 != 46) = false:=bne_eq_false_iff_eq.mpr c11
    clear c11
    obtain rfl:=Option.some.inj H
    go_enter Tryd.func71,Tryd.ntmps71
    go_wp2
    go_ret
    exact ⟨by first|rfl|(simp;done)|(simp only [i64_w,i32_w];done)|(simp only [i64_w,i32_w];rfl)|(simp [*];done)|(simp [emp_bne,emp_beq];done),by repeat (first|exact Drawn0.refl _|apply Drawn0.step)⟩
   ·rw [if_neg c11] at H
    have c11b0:(a0 == 46) = false:=beq_eq_false_iff_ne.mpr c11
    have c11b1:(a0 != 46) = true:=bne_iff_ne.mpr c11
    obtain rfl:=Option.some.inj H
    go_enter Tryd.func71,Tryd.ntmps71
    go_wp2
    go_ret
    exact ⟨by first|rfl|(simp;done)|(simp only [i64_w,i32_w];done)|(simp only [i64_w,i32_w];rfl)|(simp [*];done)|(simp [emp_bne,emp_beq];done),by repeat (first|exact Drawn0.refl _|apply Drawn0.step)⟩

/-! ### spec_l1Sign: function 72 -/
def spec_l1Sign.f (a0:Int):Option (ByteArray):=if 0 ≤ (wrap64 (Int.tdiv a0 16)) then (if (wrap64 (Int.tdiv a0 16)) ≤ (wrap64 ((wrap64 (Int.tdiv a0 16)) + 1)) then (if (wrap64 ((wrap64 (Int.tdiv a0 16)) + 1)) ≤ 16 then (if 1 + ((⟨#[48,49,50,51,52,53,54,55,56,57,65,66,67,68,69,70]⟩:ByteArray).extract ((wrap64 (Int.tdiv a0 16)):Int).toNat ((wrap64 ((wrap64 (Int.tdiv a0 16)) + 1)):Int).toNat).size ≤ 9223372036854775807 then (if 0 ≤ (Int.tmod a0 16) then (if (Int.tmod a0 16) ≤ (wrap64 ((Int.tmod a0 16) + 1)) then (if (wrap64 ((Int.tmod a0 16) + 1)) ≤ 16 then (if ((⟨#[37]⟩:ByteArray) ++ ((⟨#[48,49,50,51,52,53,54,55,56,57,65,66,67,68,69,70]⟩:ByteArray).extract ((wrap64 (Int.tdiv a0 16)):Int).toNat ((wrap64 ((wrap64 (Int.tdiv a0 16)) + 1)):Int).toNat)).size + ((⟨#[48,49,50,51,52,53,54,55,56,57,65,66,67,68,69,70]⟩:ByteArray).extract ((Int.tmod a0 16):Int).toNat ((wrap64 ((Int.tmod a0 16) + 1)):Int).toNat).size ≤ 9223372036854775807 then (some (((⟨#[37]⟩:ByteArray) ++ ((⟨#[48,49,50,51,52,53,54,55,56,57,65,66,67,68,69,70]⟩:ByteArray).extract ((wrap64 (Int.tdiv a0 16)):Int).toNat ((wrap64 ((wrap64 (Int.tdiv a0 16)) + 1)):Int).toNat)) ++ ((⟨#[48,49,50,51,52,53,54,55,56,57,65,66,67,68,69,70]⟩:ByteArray).extract ((Int.tmod a0 16):Int).toNat ((wrap64 ((Int.tmod a0 16) + 1)):Int).toNat))) else (none)) else (none)) else (none)) else (none)) else (none)) else (none)) else (none)) else (none)
theorem spec_l1Sign.calls (a0:Int) (r:ByteArray) (w:World) (h:spec_l1Sign.f a0 = some r) :
  Calls Tryd.prog 72 #[.int .i64 a0] w fun e w'=>e = .returned (.string r) ∧ Drawn0 w w':=by
 have H:(if 0 ≤ (wrap64 (Int.tdiv a0 16)) then (if (wrap64 (Int.tdiv a0 16)) ≤ (wrap64 ((wrap64 (Int.tdiv a0 16)) + 1)) then (if (wrap64 ((wrap64 (Int.tdiv a0 16)) + 1)) ≤ 16 then (if 1 + ((⟨#[48,49,50,51,52,53,54,55,56,57,65,66,67,68,69,70]⟩:ByteArray).extract ((wrap64 (Int.tdiv a0 16)):Int).toNat ((wrap64 ((wrap64 (Int.tdiv a0 16)) + 1)):Int).toNat).size ≤ 9223372036854775807 then (if 0 ≤ (Int.tmod a0 16) then (if (Int.tmod a0 16) ≤ (wrap64 ((Int.tmod a0 16) + 1)) then (if (wrap64 ((Int.tmod a0 16) + 1)) ≤ 16 then (if ((⟨#[37]⟩:ByteArray) ++ ((⟨#[48,49,50,51,52,53,54,55,56,57,65,66,67,68,69,70]⟩:ByteArray).extract ((wrap64 (Int.tdiv a0 16)):Int).toNat ((wrap64 ((wrap64 (Int.tdiv a0 16)) + 1)):Int).toNat)).size + ((⟨#[48,49,50,51,52,53,54,55,56,57,65,66,67,68,69,70]⟩:ByteArray).extract ((Int.tmod a0 16):Int).toNat ((wrap64 ((Int.tmod a0 16) + 1)):Int).toNat).size ≤ 9223372036854775807 then (some (((⟨#[37]⟩:ByteArray) ++ ((⟨#[48,49,50,51,52,53,54,55,56,57,65,66,67,68,69,70]⟩:ByteArray).extract ((wrap64 (Int.tdiv a0 16)):Int).toNat ((wrap64 ((wrap64 (Int.tdiv a0 16)) + 1)):Int).toNat)) ++ ((⟨#[48,49,50,51,52,53,54,55,56,57,65,66,67,68,69,70]⟩:ByteArray).extract ((Int.tmod a0 16):Int).toNat ((wrap64 ((Int.tmod a0 16) + 1)):Int).toNat))) else (none)) else (none)) else (none)) else (none)) else (none)) else (none)) else (none)) else (none)) = some r:=h
 clear h
 obtain ⟨ji2,hji2⟩:∃ j_:Int,(wrap64 (Int.tdiv a0 16)) = j_:=⟨_,rfl⟩
 replace H:(if 0 ≤ (ji2) then (if (ji2) ≤ (wrap64 ((ji2) + 1)) then (if (wrap64 ((ji2) + 1)) ≤ 16 then (if 1 + ((⟨#[48,49,50,51,52,53,54,55,56,57,65,66,67,68,69,70]⟩:ByteArray).extract ((ji2):Int).toNat ((wrap64 ((ji2) + 1)):Int).toNat).size ≤ 9223372036854775807 then (if 0 ≤ (Int.tmod a0 16) then (if (Int.tmod a0 16) ≤ (wrap64 ((Int.tmod a0 16) + 1)) then (if (wrap64 ((Int.tmod a0 16) + 1)) ≤ 16 then (if ((⟨#[37]⟩:ByteArray) ++ ((⟨#[48,49,50,51,52,53,54,55,56,57,65,66,67,68,69,70]⟩:ByteArray).extract ((ji2):Int).toNat ((wrap64 ((ji2) + 1)):Int).toNat)).size + ((⟨#[48,49,50,51,52,53,54,55,56,57,65,66,67,68,69,70]⟩:ByteArray).extract ((Int.tmod a0 16):Int).toNat ((wrap64 ((Int.tmod a0 16) + 1)):Int).toNat).size ≤ 9223372036854775807 then (some (((⟨#[37]⟩:ByteArray) ++ ((⟨#[48,49,50,51,52,53,54,55,56,57,65,66,67,68,69,70]⟩:ByteArray).extract ((ji2):Int).toNat ((wrap64 ((ji2) + 1)):Int).toNat)) ++ ((⟨#[48,49,50,51,52,53,54,55,56,57,65,66,67,68,69,70]⟩:ByteArray).extract ((Int.tmod a0 16):Int).toNat ((wrap64 ((Int.tmod a0 16) + 1)):Int).toNat))) else (none)) else (none)) else (none)) else (none)) else (none)) else (none)) else (none)) else (none)) = some r:=by first|(rw [hji2] at H;exact H)|(simp only [hji2] at H ⊢;exact H)
 have hji2w:(IntKind.i64.wrap (Int.tdiv a0 16)) = ji2:=(i64_w _).trans hji2
 by_cases c3:0 ≤ (ji2)
 ·rw [if_pos c3] at H
  have c3b0:=eq_true c3
  have c3b1:=decide_eq_true c3
  clear c3
  by_cases c4:(ji2) ≤ (wrap64 ((ji2) + 1))
  ·rw [if_pos c4] at H
   have c4b0:=eq_true c4
   have c4b1:=decide_eq_true c4
   by_cases c5:(wrap64 ((ji2) + 1)) ≤ 16
   ·rw [if_pos c5] at H
    have c5b0:=eq_true c5
    have c5b1:=decide_eq_true c5
    by_cases c6:1 + ((⟨#[48,49,50,51,52,53,54,55,56,57,65,66,67,68,69,70]⟩:ByteArray).extract ((ji2):Int).toNat ((wrap64 ((ji2) + 1)):Int).toNat).size ≤ 9223372036854775807
    ·rw [if_pos c6] at H
     have c6b0:=eq_true c6
     have c6b1:=decide_eq_true c6
     try have c6b2:(9223372036854775807 < 1 + ((⟨#[48,49,50,51,52,53,54,55,56,57,65,66,67,68,69,70]⟩:ByteArray).extract ((ji2):Int).toNat ((wrap64 ((ji2) + 1)):Int).toNat).size) = False:=eq_false (Nat.not_lt.2 c6)
     obtain ⟨ji7,hji7⟩:∃ j_:Int,(Int.tmod a0 16) = j_:=⟨_,rfl⟩
     replace H:(if 0 ≤ (ji7) then (if (ji7) ≤ (wrap64 ((ji7) + 1)) then (if (wrap64 ((ji7) + 1)) ≤ 16 then (if ((⟨#[37]⟩:ByteArray) ++ ((⟨#[48,49,50,51,52,53,54,55,56,57,65,66,67,68,69,70]⟩:ByteArray).extract ((ji2):Int).toNat ((wrap64 ((ji2) + 1)):Int).toNat)).size + ((⟨#[48,49,50,51,52,53,54,55,56,57,65,66,67,68,69,70]⟩:ByteArray).extract ((ji7):Int).toNat ((wrap64 ((ji7) + 1)):Int).toNat).size ≤ 9223372036854775807 then (some (((⟨#[37]⟩:ByteArray) ++ ((⟨#[48,49,50,51,52,53,54,55,56,57,65,66,67,68,69,70]⟩:ByteArray).extract ((ji2):Int).toNat ((wrap64 ((ji2) + 1)):Int).toNat)) ++ ((⟨#[48,49,50,51,52,53,54,55,56,57,65,66,67,68,69,70]⟩:ByteArray).extract ((ji7):Int).toNat ((wrap64 ((ji7) + 1)):Int).toNat))) else (none)) else (none)) else (none)) else (none)) = some r:=by first|(rw [hji7] at H;exact H)|(simp only [hji7] at H ⊢;exact H)
     by_cases c8:0 ≤ (ji7)
     ·rw [if_pos c8] at H
      have c8b0:=eq_true c8
      have c8b1:=decide_eq_true c8
      clear c8
      by_cases c9:(ji7) ≤ (wrap64 ((ji7) + 1))
      ·rw [if_pos c9] at H
       have c9b0:=eq_true c9
       have c9b1:=decide_eq_true c9
       by_cases c10:(wrap64 ((ji7) + 1)) ≤ 16
       ·rw [if_pos c10] at H
        have c10b0:=eq_true c10
        have c10b1:=decide_eq_true c10
        by_cases c11:((⟨#[37]⟩:ByteArray) ++ ((⟨#[48,49,50,51,52,53,54,55,56,57,65,66,67,68,69,70]⟩:ByteArray).extract ((ji2):Int).toNat ((wrap64 ((ji2) + 1)):Int).toNat)).size + ((⟨#[48,49,50,51,52,53,54,55,56,57,65,66,67,68,69,70]⟩:ByteArray).extract ((ji7):Int).toNat ((wrap64 ((ji7) + 1)):Int).toNat).size ≤ 9223372036854775807
        ·rw [if_pos c11] at H
         have c11b0:=eq_true c11
         have c11b1:=decide_eq_true c11
         try have c11b2:(9223372036854775807 < ((⟨#[37]⟩:ByteArray) ++ ((⟨#[48,49,50,51,52,53,54,55,56,57,65,66,67,68,69,70]⟩:ByteArray).extract ((ji2):Int).toNat ((wrap64 ((ji2) + 1)):Int).toNat)).size + ((⟨#[48,49,50,51,52,53,54,55,56,57,65,66,67,68,69,70]⟩:ByteArray).extract ((ji7):Int).toNat ((wrap64 ((ji7) + 1)):Int).toNat).size) = False:=eq_false (Nat.not_lt.2 c11)
         obtain rfl:=Option.some.inj H
         go_enter Tryd.func72,Tryd.ntmps72
         go_wp2
         repeat (go_quiet (fail);try go_wp2)
         go_ret
         exact ⟨by first|rfl|(simp only [i64_w,i32_w];done)|(simp only [i64_w,i32_w];rfl)|(simp;done)|(simp only [← hji2,← hji7] <;> (first|rfl|simp))|(simp [*];done),by repeat (first|exact Drawn0.refl _|apply Drawn0.step)⟩
        ·rw [if_neg c11] at H
         exact absurd H (by simp)
       ·rw [if_neg c10] at H
        exact absurd H (by simp)
      ·rw [if_neg c9] at H
       exact absurd H (by simp)
     ·rw [if_neg c8] at H
      exact absurd H (by simp)
    ·rw [if_neg c6] at H
     exact absurd H (by simp)
   ·rw [if_neg c5] at H
    exact absurd H (by simp)
  ·rw [if_neg c4] at H
   exact absurd H (by simp)
 ·rw [if_neg c3] at H
  exact absurd H (by simp)

/-! ### spec_EscNorm: function 54 -/
mutual
def spec_EscNorm.l0:Nat → ByteArray → ByteArray → Int → Option (ByteArray × Bool)
 | 0,_,_,_=>none
 | k + 1,x0,x4,x5=>if x5 < (x0.size:Int) then (if 0 ≤ x5 then (if (bt x0 x5) = 37 then (if (wrap64 (x5 + 2)) ≥ (x0.size:Int) then (spec_EscNorm.j1 k x0 x4 x5 true) else (if 0 ≤ (wrap64 (x5 + 1)) then (if (wrap64 (x5 + 1)) < (x0.size:Int) then ((spec_l1Hex.f k (bt x0 (wrap64 (x5 + 1)))).bind fun t116=>(if t116 < 0 then (spec_EscNorm.j1 k x0 x4 x5 true) else (if 0 ≤ (wrap64 (x5 + 2)) then (if (wrap64 (x5 + 2)) < (x0.size:Int) then ((spec_l1Hex.f k (bt x0 (wrap64 (x5 + 2)))).bind fun t117=>(spec_EscNorm.j1 k x0 x4 x5 (decide (t117 < 0)))) else (none)) else (none)))) else (none)) else (none))) else (spec_EscNorm.j2 k x0 x4 x5 (wrap64 (bt x0 x5)))) else (none)) else (some (x4,true))
def spec_EscNorm.j2:Nat → ByteArray → ByteArray → Int → Int → Option (ByteArray × Bool)
 | 0,_,_,_,_=>none
 | k + 1,x0,x4,x5,x6=>(spec_l1Plain.f ((x6) % 256)).bind fun t120=>(if t120 = true then ((some (([(x6) % 256]:List Int):List Int)).bind fun y121=>(if x4.size + (strOfNums y121).size ≤ 9223372036854775807 then (spec_EscNorm.l0 k x0 (x4 ++ (strOfNums y121)) (wrap64 (x5 + 1))) else (none))) else ((spec_l1Sign.f x6).bind fun t124=>(if x4.size + t124.size ≤ 9223372036854775807 then (spec_EscNorm.l0 k x0 (x4 ++ t124) (wrap64 (x5 + 1))) else (none))))
def spec_EscNorm.j1:Nat → ByteArray → ByteArray → Int → Bool → Option (ByteArray × Bool)
 | 0,_,_,_,_=>none
 | k + 1,x0,x4,x5,x44=>if x44 = true then (some ((⟨#[]⟩:ByteArray),false)) else (if 0 ≤ (wrap64 (x5 + 1)) then (if (wrap64 (x5 + 1)) < (x0.size:Int) then ((spec_l1Hex.f k (bt x0 (wrap64 (x5 + 1)))).bind fun t118=>(if 0 ≤ (wrap64 (x5 + 2)) then (if (wrap64 (x5 + 2)) < (x0.size:Int) then ((spec_l1Hex.f k (bt x0 (wrap64 (x5 + 2)))).bind fun t119=>(spec_EscNorm.j2 k x0 x4 (wrap64 (x5 + 2)) (wrap64 ((wrap64 (t118 * 16)) + t119)))) else (none)) else (none))) else (none)) else (none))
end
def spec_EscNorm.f (k:Nat) (a0:ByteArray):Option (ByteArray × Bool):=if (a0.size:Int) > 60 then (some ((⟨#[]⟩:ByteArray),false)) else (spec_EscNorm.l0 k a0 (⟨#[]⟩:ByteArray) 0)
theorem spec_EscNorm.mono_l:∀ k,(∀ y0 y1 y2,LeO (spec_EscNorm.l0 k y0 y1 y2) (spec_EscNorm.l0 (k + 1) y0 y1 y2)) ∧ (∀ y0 y1 y2 y3,LeO (spec_EscNorm.j2 k y0 y1 y2 y3) (spec_EscNorm.j2 (k + 1) y0 y1 y2 y3)) ∧ (∀ y0 y1 y2 y3,LeO (spec_EscNorm.j1 k y0 y1 y2 y3) (spec_EscNorm.j1 (k + 1) y0 y1 y2 y3))
 | 0=>⟨fun _ _ _ r h=>by simp [spec_EscNorm.l0] at h,fun _ _ _ _ r h=>by simp [spec_EscNorm.j2] at h,fun _ _ _ _ r h=>by simp [spec_EscNorm.j1] at h⟩
 | k + 1=>by
  obtain ⟨ih0,ih1,ih2⟩:=spec_EscNorm.mono_l k
  refine ⟨?_,?_,?_⟩
  ·intro y0 y1 y2
   unfold spec_EscNorm.l0
   repeat' first
   | (with_reducible exact ih0 _ _ _)
   | (with_reducible exact ih1 _ _ _ _)
   | (with_reducible exact ih2 _ _ _ _)
   | (with_reducible exact spec_l1Hex.mono _ _)
   | (with_reducible exact LeO.refl _)
   | (with_reducible exact LeO.none _)
   | (with_reducible refine LeO.ite ?_ ?_)
   | (with_reducible refine LeO.bind ?_ (fun _=>?_))
   | exact ih0 _ _ _
   | exact ih1 _ _ _ _
   | exact ih2 _ _ _ _
   | exact spec_l1Hex.mono _ _
   | exact LeO.none _
   | refine LeO.ite ?_ ?_
   | refine LeO.bind ?_ (fun _=>?_)
  ·intro y0 y1 y2 y3
   unfold spec_EscNorm.j2
   repeat' first
   | (with_reducible exact ih0 _ _ _)
   | (with_reducible exact ih1 _ _ _ _)
   | (with_reducible exact ih2 _ _ _ _)
   | (with_reducible exact spec_l1Hex.mono _ _)
   | (with_reducible exact LeO.refl _)
   | (with_reducible exact LeO.none _)
   | (with_reducible refine LeO.ite ?_ ?_)
   | (with_reducible refine LeO.bind ?_ (fun _=>?_))
   | exact ih0 _ _ _
   | exact ih1 _ _ _ _
   | exact ih2 _ _ _ _
   | exact spec_l1Hex.mono _ _
   | exact LeO.none _
   | refine LeO.ite ?_ ?_
   | refine LeO.bind ?_ (fun _=>?_)
  ·intro y0 y1 y2 y3
   unfold spec_EscNorm.j1
   repeat' first
   | (with_reducible exact ih0 _ _ _)
   | (with_reducible exact ih1 _ _ _ _)
   | (with_reducible exact ih2 _ _ _ _)
   | (with_reducible exact spec_l1Hex.mono _ _)
   | (with_reducible exact LeO.refl _)
   | (with_reducible exact LeO.none _)
   | (with_reducible refine LeO.ite ?_ ?_)
   | (with_reducible refine LeO.bind ?_ (fun _=>?_))
   | exact ih0 _ _ _
   | exact ih1 _ _ _ _
   | exact ih2 _ _ _ _
   | exact spec_l1Hex.mono _ _
   | exact LeO.none _
   | refine LeO.ite ?_ ?_
   | refine LeO.bind ?_ (fun _=>?_)
theorem spec_EscNorm.mono:∀ a0 k,LeO (spec_EscNorm.f k a0) (spec_EscNorm.f (k + 1) a0):=by
 intro a0 k
 obtain ⟨ih0,ih1,ih2⟩:=spec_EscNorm.mono_l k
 unfold spec_EscNorm.f
 repeat' first
   | (with_reducible exact ih0 _ _ _)
   | (with_reducible exact ih1 _ _ _ _)
   | (with_reducible exact ih2 _ _ _ _)
   | (with_reducible exact spec_l1Hex.mono _ _)
   | (with_reducible exact LeO.refl _)
   | (with_reducible exact LeO.none _)
   | (with_reducible refine LeO.ite ?_ ?_)
   | (with_reducible refine LeO.bind ?_ (fun _=>?_))
   | exact ih0 _ _ _
   | exact ih1 _ _ _ _
   | exact ih2 _ _ _ _
   | exact spec_l1Hex.mono _ _
   | exact LeO.none _
   | refine LeO.ite ?_ ?_
   | refine LeO.bind ?_ (fun _=>?_)
theorem spec_EscNorm.calls (k:Nat) (a0:ByteArray) (r1:ByteArray) (r2:Bool) (w:World) (h:spec_EscNorm.f k a0 = some (r1,r2)) :
  Calls Tryd.prog 54 #[.string a0] w fun e w'=>e = .returned (.tuple #[.string r1, .bool r2]) ∧ Below w.heap.size w w':=by
 have HB:=Aside0.mk (Below.refl w.heap.size w)
 have H:(if (a0.size:Int) > 60 then (some ((⟨#[]⟩:ByteArray),false)) else (spec_EscNorm.l0 k a0 (⟨#[]⟩:ByteArray) 0)) = some (r1,r2):=h
 clear h
 by_cases c2:(a0.size:Int) > 60
 ·rw [if_pos c2] at H
  have c2b0:decide (60 < (a0.size:Int)) = true:=decide_eq_true c2
  have c2b1:decide (60 < a0.size) = true:=decide_eq_true (by omega)
  clear c2
  simp only [Option.some.injEq,Prod.mk.injEq] at H
  obtain ⟨rfl,rfl⟩:=H
  go_enter Tryd.func54,Tryd.ntmps54
  go_wp2
  repeat (go_quiet (fail);try go_wp2)
  go_ret2
  exact ⟨by first|rfl|(simp <;> rfl)|(simp [*] <;> rfl),by repeat (first|(with_reducible first|exact HB.out|apply below_alloc|apply pw_below_drewN|apply below_drew1)|exact HB.out)⟩
 ·rw [if_neg c2] at H
  have c2b0:decide (60 < (a0.size:Int)) = false:=decide_eq_false c2
  have c2b1:decide (60 < a0.size) = false:=decide_eq_false (by omega)
  clear c2
  have H':=Aside0.mk H
  clear H
  go_enter Tryd.func54,Tryd.ntmps54
  go_wp2
  repeat (go_quiet (fail);try go_wp2)
  go_loopg [4,5] k (fun kq v4 v5 w'=>∃ (x4_1:ByteArray) (x5_1:Int),v4 = .string x4_1 ∧ v5 = .int .i64 x5_1 ∧ Aside0 (spec_EscNorm.l0 kq a0 x4_1 x5_1 = some (r1,r2)) ∧ Aside0 (kq ≤ k) ∧ Aside0 (Below w.heap.size w w'))
  case atStart=>exact ⟨((⟨#[]⟩:ByteArray)),(0),(by first|rfl|(simp;done)|(simp only [i64_w,i32_w];done)|(simp only [i64_w,i32_w];rfl)|(simp [*];done)|(simp [emp_bne,emp_beq];done)),(by first|rfl|(simp;done)|(simp only [i64_w,i32_w];done)|(simp only [i64_w,i32_w];rfl)|(simp [*];done)|(simp [emp_bne,emp_beq];done)),H',⟨Nat.le_refl _⟩,⟨by repeat (first|(with_reducible first|exact HB.out|apply below_alloc|apply pw_below_drewN|apply below_drew1)|exact HB.out)⟩⟩
  case round =>
   clear H'
   try clear c2
   try clear c2b0
   try clear c2b1
   try clear p2
   obtain ⟨x4_1,x5_1,rfl,rfl,HA,HK1,HB⟩:=hrel
   cases gk with
   | zero=>exact absurd HA.out (by simp [spec_EscNorm.l0])
   | succ k1 =>
    have H:=HA.out
    clear HA
    simp only [spec_EscNorm.l0] at H
    by_cases c3:x5_1 < (a0.size:Int)
    ·rw [if_pos c3] at H
     have c3b0:decide (x5_1 < (a0.size:Int)) = true:=decide_eq_true c3
     clear c3
     by_cases c4:0 ≤ x5_1
     ·rw [if_pos c4] at H
      have c4b0:decide (0 ≤ x5_1) = true:=decide_eq_true c4
      clear c4
      have HC7:=Aside0.mk H
      clear H
      have p5:0 ≤ (x5_1:Int):=of_decide_eq_true (by first|(with_reducible assumption)|assumption)
      have q5:x5_1 < (a0.size:Int):=of_decide_eq_true (by first|(with_reducible assumption)|assumption)
      have hx5:=bt_at a0 x5_1
      replace p5:=eq_true p5
      replace q5:=eq_true q5
      have p6:0 ≤ (x5_1:Int):=of_decide_eq_true (by first|(with_reducible assumption)|assumption)
      have q6:x5_1 < (a0.size:Int):=of_decide_eq_true (by first|(with_reducible assumption)|assumption)
      have hx6:=bt_at a0 x5_1
      replace p6:=eq_true p6
      replace q6:=eq_true q6
      go_upto_if 23 with (fail)
      repeat (go_quiet (fail);go_upto_if 23 with (fail))
      go_cut [5,6] (fun v5 v6 wc=>∃ (kq:Nat) (x5_6:Int) (x6_6:Int),v5 = .int .i64 x5_6 ∧ v6 = .int .i64 x6_6 ∧ Aside0 (spec_EscNorm.j2 kq a0 x4_1 x5_6 x6_6 = some (r1,r2)) ∧ Aside0 (kq ≤ k1) ∧ Aside0 (Below w.heap.size w wc))
      case first =>
       have H:=HC7.out
       clear HC7
       by_cases c8:(bt a0 x5_1) = 37
       ·rw [if_pos c8] at H
        have c8b0:((bt a0 x5_1) == 37) = true:=beq_iff_eq.mpr c8
        have c8b1:((bt a0 x5_1) != 37) = false:=bne_eq_false_iff_eq.mpr c8
        clear c8
        (first|rw [c8b0]|(simp only [i64_w,i32_w];rw [c8b0])|skip)
        have HC9:=Aside0.mk H
        clear H
        go_upto_region 9 with (fail)
        repeat (go_quiet (fail);go_upto_region 9 with (fail))
        go_cut [44] (fun v44 wc=>∃ (kq:Nat) (x44_8:Bool),v44 = .bool x44_8 ∧ Aside0 (spec_EscNorm.j1 kq a0 x4_1 x5_1 x44_8 = some (r1,r2)) ∧ Aside0 (kq ≤ k1) ∧ Aside0 (Below w.heap.size w wc))
        case first =>
         have H:=HC9.out
         clear HC9
         by_cases c10:(wrap64 (x5_1 + 2)) ≥ (a0.size:Int)
         ·rw [if_pos c10] at H
          have c10b0:decide ((a0.size:Int) ≤ (wrap64 (x5_1 + 2))) = true:=decide_eq_true c10
          clear c10
          (first|rw [c10b0]|(simp only [i64_w,i32_w];rw [c10b0])|skip)
          have H':=Aside0.mk H
          clear H
          go_wp2
          repeat (go_quiet (fail);try go_wp2)
          go_meet
          case rel=>exact ⟨_,(true),(by first|rfl|(simp;done)|(simp only [i64_w,i32_w];done)|(simp only [i64_w,i32_w];rfl)|(simp [*];done)|(simp [emp_bne,emp_beq];done)),H',⟨by have:=HK1.out;first|omega|exact Nat.le_refl _⟩,⟨by repeat (first|(with_reducible first|exact HB.out|apply below_alloc|apply pw_below_drewN|apply below_drew1)|exact HB.out)⟩⟩
         ·rw [if_neg c10] at H
          have c10b0:decide ((a0.size:Int) ≤ (wrap64 (x5_1 + 2))) = false:=decide_eq_false c10
          clear c10
          (first|rw [c10b0]|(simp only [i64_w,i32_w];rw [c10b0])|skip)
          obtain ⟨ji11,hji11⟩:∃ j_:Int,(wrap64 (x5_1 + 1)) = j_:=⟨_,rfl⟩
          replace H:(if 0 ≤ (ji11) then (if (ji11) < (a0.size:Int) then ((spec_l1Hex.f k1 (bt a0 (ji11))).bind fun t116=>(if t116 < 0 then (spec_EscNorm.j1 k1 a0 x4_1 x5_1 true) else (if 0 ≤ (wrap64 (x5_1 + 2)) then (if (wrap64 (x5_1 + 2)) < (a0.size:Int) then ((spec_l1Hex.f k1 (bt a0 (wrap64 (x5_1 + 2)))).bind fun t117=>(spec_EscNorm.j1 k1 a0 x4_1 x5_1 (decide (t117 < 0)))) else (none)) else (none)))) else (none)) else (none)) = some (r1,r2):=by first|(rw [hji11] at H;exact H)|(simp only [hji11] at H ⊢;exact H)
          have hji11w:(IntKind.i64.wrap (x5_1 + 1)) = ji11:=(i64_w _).trans hji11
          by_cases c12:0 ≤ (ji11)
          ·rw [if_pos c12] at H
           have c12b0:decide (0 ≤ (ji11)) = true:=decide_eq_true c12
           clear c12
           by_cases c13:(ji11) < (a0.size:Int)
           ·rw [if_pos c13] at H
            have c13b0:decide ((ji11) < (a0.size:Int)) = true:=decide_eq_true c13
            clear c13
            replace H:=Option.bind_eq_some_iff.mp H
            obtain ⟨t116,A150,H⟩:=H
            replace H:(if t116 < 0 then (spec_EscNorm.j1 k1 a0 x4_1 x5_1 true) else (if 0 ≤ (wrap64 (x5_1 + 2)) then (if (wrap64 (x5_1 + 2)) < (a0.size:Int) then ((spec_l1Hex.f k1 (bt a0 (wrap64 (x5_1 + 2)))).bind fun t117=>(spec_EscNorm.j1 k1 a0 x4_1 x5_1 (decide (t117 < 0)))) else (none)) else (none))) = some (r1,r2):=H
            have A15:=Aside0.mk A150
            clear A150
            by_cases c16:t116 < 0
            ·rw [if_pos c16] at H
             have c16b0:decide (t116 < 0) = true:=decide_eq_true c16
             clear c16
             have H':=Aside0.mk H
             clear H
             have p14:0 ≤ ((ji11):Int):=of_decide_eq_true (by first|(with_reducible assumption)|assumption)
             have q14:(ji11) < (a0.size:Int):=of_decide_eq_true (by first|(with_reducible assumption)|assumption)
             have hx14:=bt_at a0 (ji11)
             replace p14:=eq_true p14
             replace q14:=eq_true q14
             go_wp2_with (first|(go_at_call 70;(with_reducible refine (spec_l1Hex.calls k1 (bt a0 (ji11)) t116 _ A15.out).mono ?_);rintro e w' ⟨rfl,⟨nd,rfl⟩⟩;(try first|exact ⟨rfl,_,World.drewN_drewN _ _ _⟩|exact ⟨rfl,_,Eq.trans (World.drewN_drewN _ _ _) (congrArg (World.drewN _) (Nat.add_assoc _ _ _))⟩)))
             repeat (go_quiet (first|(go_at_call 70;(with_reducible refine (spec_l1Hex.calls k1 (bt a0 (ji11)) t116 _ A15.out).mono ?_);rintro e w' ⟨rfl,⟨nd,rfl⟩⟩;(try first|exact ⟨rfl,_,World.drewN_drewN _ _ _⟩|exact ⟨rfl,_,Eq.trans (World.drewN_drewN _ _ _) (congrArg (World.drewN _) (Nat.add_assoc _ _ _))⟩)));try go_wp2_with (first|(go_at_call 70;(with_reducible refine (spec_l1Hex.calls k1 (bt a0 (ji11)) t116 _ A15.out).mono ?_);rintro e w' ⟨rfl,⟨nd,rfl⟩⟩;(try first|exact ⟨rfl,_,World.drewN_drewN _ _ _⟩|exact ⟨rfl,_,Eq.trans (World.drewN_drewN _ _ _) (congrArg (World.drewN _) (Nat.add_assoc _ _ _))⟩))))
             go_meet
             case rel=>exact ⟨_,(true),(by first|rfl|(simp;done)|(simp only [i64_w,i32_w];done)|(simp only [i64_w,i32_w];rfl)|(simp [*];done)|(simp [emp_bne,emp_beq];done)),H',⟨by have:=HK1.out;first|omega|exact Nat.le_refl _⟩,⟨by repeat (first|(with_reducible first|exact HB.out|apply below_alloc|apply pw_below_drewN|apply below_drew1)|exact HB.out)⟩⟩
            ·rw [if_neg c16] at H
             have c16b0:decide (t116 < 0) = false:=decide_eq_false c16
             clear c16
             obtain ⟨ji17,hji17⟩:∃ j_:Int,(wrap64 (x5_1 + 2)) = j_:=⟨_,rfl⟩
             replace H:(if 0 ≤ (ji17) then (if (ji17) < (a0.size:Int) then ((spec_l1Hex.f k1 (bt a0 (ji17))).bind fun t117=>(spec_EscNorm.j1 k1 a0 x4_1 x5_1 (decide (t117 < 0)))) else (none)) else (none)) = some (r1,r2):=by first|(rw [hji17] at H;exact H)|(simp only [hji17] at H ⊢;exact H)
             (try rw [hji17] at c10b0)
             (try rw [hji17] at A15)
             have hji17w:(IntKind.i64.wrap (x5_1 + 2)) = ji17:=(i64_w _).trans hji17
             by_cases c18:0 ≤ (ji17)
             ·rw [if_pos c18] at H
              have c18b0:decide (0 ≤ (ji17)) = true:=decide_eq_true c18
              clear c18
              by_cases c19:(ji17) < (a0.size:Int)
              ·rw [if_pos c19] at H
               have c19b0:decide ((ji17) < (a0.size:Int)) = true:=decide_eq_true c19
               clear c19
               replace H:=Option.bind_eq_some_iff.mp H
               obtain ⟨t117,A210,H⟩:=H
               replace H:(spec_EscNorm.j1 k1 a0 x4_1 x5_1 (decide (t117 < 0))) = some (r1,r2):=H
               have A21:=Aside0.mk A210
               clear A210
               have H':=Aside0.mk H
               clear H
               have p14:0 ≤ ((ji11):Int):=of_decide_eq_true (by first|(with_reducible assumption)|assumption)
               have q14:(ji11) < (a0.size:Int):=of_decide_eq_true (by first|(with_reducible assumption)|assumption)
               have hx14:=bt_at a0 (ji11)
               replace p14:=eq_true p14
               replace q14:=eq_true q14
               go_wp2_with (first|(go_at_call 70;(with_reducible refine (spec_l1Hex.calls k1 (bt a0 (ji11)) t116 _ A15.out).mono ?_);rintro e w' ⟨rfl,⟨nd,rfl⟩⟩;(try first|exact ⟨rfl,_,World.drewN_drewN _ _ _⟩|exact ⟨rfl,_,Eq.trans (World.drewN_drewN _ _ _) (congrArg (World.drewN _) (Nat.add_assoc _ _ _))⟩);have p20:0 ≤ ((ji17):Int):=of_decide_eq_true (by first|(with_reducible assumption)|assumption);have q20:(ji17) < (a0.size:Int):=of_decide_eq_true (by first|(with_reducible assumption)|assumption);have hx20:=bt_at a0 (ji17);replace p20:=eq_true p20;replace q20:=eq_true q20)|(go_at_call 70;(with_reducible refine (spec_l1Hex.calls k1 (bt a0 (ji17)) t117 _ A21.out).mono ?_);rintro e w' ⟨rfl,⟨nd,rfl⟩⟩;(try first|exact ⟨rfl,_,World.drewN_drewN _ _ _⟩|exact ⟨rfl,_,Eq.trans (World.drewN_drewN _ _ _) (congrArg (World.drewN _) (Nat.add_assoc _ _ _))⟩)))
               repeat (go_quiet (first|(go_at_call 70;(with_reducible refine (spec_l1Hex.calls k1 (bt a0 (ji11)) t116 _ A15.out).mono ?_);rintro e w' ⟨rfl,⟨nd,rfl⟩⟩;(try first|exact ⟨rfl,_,World.drewN_drewN _ _ _⟩|exact ⟨rfl,_,Eq.trans (World.drewN_drewN _ _ _) (congrArg (World.drewN _) (Nat.add_assoc _ _ _))⟩);have p20:0 ≤ ((ji17):Int):=of_decide_eq_true (by first|(with_reducible assumption)|assumption);have q20:(ji17) < (a0.size:Int):=of_decide_eq_true (by first|(with_reducible assumption)|assumption);have hx20:=bt_at a0 (ji17);replace p20:=eq_true p20;replace q20:=eq_true q20)|(go_at_call 70;(with_reducible refine (spec_l1Hex.calls k1 (bt a0 (ji17)) t117 _ A21.out).mono ?_);rintro e w' ⟨rfl,⟨nd,rfl⟩⟩;(try first|exact ⟨rfl,_,World.drewN_drewN _ _ _⟩|exact ⟨rfl,_,Eq.trans (World.drewN_drewN _ _ _) (congrArg (World.drewN _) (Nat.add_assoc _ _ _))⟩)));try go_wp2_with (first|(go_at_call 70;(with_reducible refine (spec_l1Hex.calls k1 (bt a0 (ji11)) t116 _ A15.out).mono ?_);rintro e w' ⟨rfl,⟨nd,rfl⟩⟩;(try first|exact ⟨rfl,_,World.drewN_drewN _ _ _⟩|exact ⟨rfl,_,Eq.trans (World.drewN_drewN _ _ _) (congrArg (World.drewN _) (Nat.add_assoc _ _ _))⟩);have p20:0 ≤ ((ji17):Int):=of_decide_eq_true (by first|(with_reducible assumption)|assumption);have q20:(ji17) < (a0.size:Int):=of_decide_eq_true (by first|(with_reducible assumption)|assumption);have hx20:=bt_at a0 (ji17);replace p20:=eq_true p20;replace q20:=eq_true q20)|(go_at_call 70;(with_reducible refine (spec_l1Hex.calls k1 (bt a0 (ji17)) t117 _ A21.out).mono ?_);rintro e w' ⟨rfl,⟨nd,rfl⟩⟩;(try first|exact ⟨rfl,_,World.drewN_drewN _ _ _⟩|exact ⟨rfl,_,Eq.trans (World.drewN_drewN _ _ _) (congrArg (World.drewN _) (Nat.add_assoc _ _ _))⟩))))
               go_meet
               case rel=>exact ⟨_,(decide (t117 < 0)),(by first|rfl|(simp;done)|(simp only [i64_w,i32_w];done)|(simp only [i64_w,i32_w];rfl)|(simp [*];done)|(simp [emp_bne,emp_beq];done)),H',⟨by have:=HK1.out;first|omega|exact Nat.le_refl _⟩,⟨by repeat (first|(with_reducible first|exact HB.out|apply below_alloc|apply pw_below_drewN|apply below_drew1)|exact HB.out)⟩⟩
              ·rw [if_neg c19] at H
               exact absurd H (by simp)
             ·rw [if_neg c18] at H
              exact absurd H (by simp)
           ·rw [if_neg c13] at H
            exact absurd H (by simp)
          ·rw [if_neg c12] at H
           exact absurd H (by simp)
        case rest =>
         clear HC9
         try clear c1
         try clear p1
         try clear q1
         try clear hx1
         try clear c2
         try clear c2b0
         try clear c2b1
         try clear p2
         try clear q2
         try clear hx2
         try clear c3
         try clear c3b0
         try clear c4
         try clear c4b0
         try clear c5
         try clear p5
         try clear q5
         try clear hx5
         try clear p6
         try clear q6
         try clear hx6
         try clear c8
         try clear c8b0
         try clear c8b1
         try clear c10
         try clear c10b0
         try clear c12
         try clear c12b0
         try clear c13
         try clear c13b0
         try clear p14
         try clear q14
         try clear hx14
         try clear c16
         try clear c16b0
         try clear c18
         try clear c18b0
         try clear c19
         try clear c19b0
         try clear p20
         try clear q20
         try clear hx20
         try clear p14
         try clear p2
         try clear p20
         try clear p5
         try clear p6
         try clear q14
         try clear q20
         try clear q5
         try clear q6
         obtain ⟨kq,x44_8,rfl,HA,HJ8,HB⟩:=hcut
         cases kq with
         | zero=>exact absurd HA.out (by simp [spec_EscNorm.j1])
         | succ kj8 =>
          have H:=HA.out
          clear HA
          simp only [spec_EscNorm.j1] at H
          by_cases c22:x44_8 = true
          ·subst c22
           have H1:(some ((⟨#[]⟩:ByteArray),false)) = some (r1,r2):=by rw [if_pos rfl] at H;exact H
           clear H
           have H:=H1
           clear H1
           simp only [Option.some.injEq,Prod.mk.injEq] at H
           obtain ⟨rfl,rfl⟩:=H
           go_wp2
           repeat (go_quiet (fail);try go_wp2)
           go_ret2
           exact ⟨by first|rfl|(simp <;> rfl)|(simp [*] <;> rfl),by repeat (first|(with_reducible first|exact HB.out|apply below_alloc|apply pw_below_drewN|apply below_drew1)|exact HB.out)⟩
          ·replace c22:=Bool.eq_false_iff.mpr c22
           subst c22
           have H1:(if 0 ≤ (wrap64 (x5_1 + 1)) then (if (wrap64 (x5_1 + 1)) < (a0.size:Int) then ((spec_l1Hex.f kj8 (bt a0 (wrap64 (x5_1 + 1)))).bind fun t118=>(if 0 ≤ (wrap64 (x5_1 + 2)) then (if (wrap64 (x5_1 + 2)) < (a0.size:Int) then ((spec_l1Hex.f kj8 (bt a0 (wrap64 (x5_1 + 2)))).bind fun t119=>(spec_EscNorm.j2 kj8 a0 x4_1 (wrap64 (x5_1 + 2)) (wrap64 ((wrap64 (t118 * 16)) + t119)))) else (none)) else (none))) else (none)) else (none)) = some (r1,r2):=by rw [if_neg (show ¬ (false = true) by decide)] at H;exact H
           clear H
           have H:=H1
           clear H1
           obtain ⟨ji23,hji23⟩:∃ j_:Int,(wrap64 (x5_1 + 1)) = j_:=⟨_,rfl⟩
           replace H:(if 0 ≤ (ji23) then (if (ji23) < (a0.size:Int) then ((spec_l1Hex.f kj8 (bt a0 (ji23))).bind fun t118=>(if 0 ≤ (wrap64 (x5_1 + 2)) then (if (wrap64 (x5_1 + 2)) < (a0.size:Int) then ((spec_l1Hex.f kj8 (bt a0 (wrap64 (x5_1 + 2)))).bind fun t119=>(spec_EscNorm.j2 kj8 a0 x4_1 (wrap64 (x5_1 + 2)) (wrap64 ((wrap64 (t118 * 16)) + t119)))) else (none)) else (none))) else (none)) else (none)) = some (r1,r2):=by first|(rw [hji23] at H;exact H)|(simp only [hji23] at H ⊢;exact H)
           have hji23w:(IntKind.i64.wrap (x5_1 + 1)) = ji23:=(i64_w _).trans hji23
           by_cases c24:0 ≤ (ji23)
           ·rw [if_pos c24] at H
            have c24b0:decide (0 ≤ (ji23)) = true:=decide_eq_true c24
            clear c24
            by_cases c25:(ji23) < (a0.size:Int)
            ·rw [if_pos c25] at H
             have c25b0:decide ((ji23) < (a0.size:Int)) = true:=decide_eq_true c25
             clear c25
             replace H:=Option.bind_eq_some_iff.mp H
             obtain ⟨t118,A270,H⟩:=H
             replace H:(if 0 ≤ (wrap64 (x5_1 + 2)) then (if (wrap64 (x5_1 + 2)) < (a0.size:Int) then ((spec_l1Hex.f kj8 (bt a0 (wrap64 (x5_1 + 2)))).bind fun t119=>(spec_EscNorm.j2 kj8 a0 x4_1 (wrap64 (x5_1 + 2)) (wrap64 ((wrap64 (t118 * 16)) + t119)))) else (none)) else (none)) = some (r1,r2):=H
             have A27:=Aside0.mk A270
             clear A270
             obtain ⟨ji28,hji28⟩:∃ j_:Int,(wrap64 (x5_1 + 2)) = j_:=⟨_,rfl⟩
             replace H:(if 0 ≤ (ji28) then (if (ji28) < (a0.size:Int) then ((spec_l1Hex.f kj8 (bt a0 (ji28))).bind fun t119=>(spec_EscNorm.j2 kj8 a0 x4_1 ji28 (wrap64 ((wrap64 (t118 * 16)) + t119)))) else (none)) else (none)) = some (r1,r2):=by first|(rw [hji28] at H;exact H)|(simp only [hji28] at H ⊢;exact H)
             (try rw [hji28] at A27)
             have hji28w:(IntKind.i64.wrap (x5_1 + 2)) = ji28:=(i64_w _).trans hji28
             by_cases c29:0 ≤ (ji28)
             ·rw [if_pos c29] at H
              have c29b0:decide (0 ≤ (ji28)) = true:=decide_eq_true c29
              clear c29
              by_cases c30:(ji28) < (a0.size:Int)
              ·rw [if_pos c30] at H
               have c30b0:decide ((ji28) < (a0.size:Int)) = true:=decide_eq_true c30
               clear c30
               replace H:=Option.bind_eq_some_iff.mp H
               obtain ⟨t119,A320,H⟩:=H
               replace H:(spec_EscNorm.j2 kj8 a0 x4_1 ji28 (wrap64 ((wrap64 (t118 * 16)) + t119))) = some (r1,r2):=H
               have A32:=Aside0.mk A320
               clear A320
               have H':=Aside0.mk H
               clear H
               have p26:0 ≤ ((ji23):Int):=of_decide_eq_true (by first|(with_reducible assumption)|assumption)
               have q26:(ji23) < (a0.size:Int):=of_decide_eq_true (by first|(with_reducible assumption)|assumption)
               have hx26:=bt_at a0 (ji23)
               replace p26:=eq_true p26
               replace q26:=eq_true q26
               go_wp2_with (first|(go_at_call 70;(with_reducible refine (spec_l1Hex.calls kj8 (bt a0 (ji23)) t118 _ A27.out).mono ?_);rintro e w' ⟨rfl,⟨nd,rfl⟩⟩;(try first|exact ⟨rfl,_,World.drewN_drewN _ _ _⟩|exact ⟨rfl,_,Eq.trans (World.drewN_drewN _ _ _) (congrArg (World.drewN _) (Nat.add_assoc _ _ _))⟩);have p31:0 ≤ ((ji28):Int):=of_decide_eq_true (by first|(with_reducible assumption)|assumption);have q31:(ji28) < (a0.size:Int):=of_decide_eq_true (by first|(with_reducible assumption)|assumption);have hx31:=bt_at a0 (ji28);replace p31:=eq_true p31;replace q31:=eq_true q31)|(go_at_call 70;(with_reducible refine (spec_l1Hex.calls kj8 (bt a0 (ji28)) t119 _ A32.out).mono ?_);rintro e w' ⟨rfl,⟨nd,rfl⟩⟩;(try first|exact ⟨rfl,_,World.drewN_drewN _ _ _⟩|exact ⟨rfl,_,Eq.trans (World.drewN_drewN _ _ _) (congrArg (World.drewN _) (Nat.add_assoc _ _ _))⟩)))
               repeat (go_quiet (first|(go_at_call 70;(with_reducible refine (spec_l1Hex.calls kj8 (bt a0 (ji23)) t118 _ A27.out).mono ?_);rintro e w' ⟨rfl,⟨nd,rfl⟩⟩;(try first|exact ⟨rfl,_,World.drewN_drewN _ _ _⟩|exact ⟨rfl,_,Eq.trans (World.drewN_drewN _ _ _) (congrArg (World.drewN _) (Nat.add_assoc _ _ _))⟩);have p31:0 ≤ ((ji28):Int):=of_decide_eq_true (by first|(with_reducible assumption)|assumption);have q31:(ji28) < (a0.size:Int):=of_decide_eq_true (by first|(with_reducible assumption)|assumption);have hx31:=bt_at a0 (ji28);replace p31:=eq_true p31;replace q31:=eq_true q31)|(go_at_call 70;(with_reducible refine (spec_l1Hex.calls kj8 (bt a0 (ji28)) t119 _ A32.out).mono ?_);rintro e w' ⟨rfl,⟨nd,rfl⟩⟩;(try first|exact ⟨rfl,_,World.drewN_drewN _ _ _⟩|exact ⟨rfl,_,Eq.trans (World.drewN_drewN _ _ _) (congrArg (World.drewN _) (Nat.add_assoc _ _ _))⟩)));try go_wp2_with (first|(go_at_call 70;(with_reducible refine (spec_l1Hex.calls kj8 (bt a0 (ji23)) t118 _ A27.out).mono ?_);rintro e w' ⟨rfl,⟨nd,rfl⟩⟩;(try first|exact ⟨rfl,_,World.drewN_drewN _ _ _⟩|exact ⟨rfl,_,Eq.trans (World.drewN_drewN _ _ _) (congrArg (World.drewN _) (Nat.add_assoc _ _ _))⟩);have p31:0 ≤ ((ji28):Int):=of_decide_eq_true (by first|(with_reducible assumption)|assumption);have q31:(ji28) < (a0.size:Int):=of_decide_eq_true (by first|(with_reducible assumption)|assumption);have hx31:=bt_at a0 (ji28);replace p31:=eq_true p31;replace q31:=eq_true q31)|(go_at_call 70;(with_reducible refine (spec_l1Hex.calls kj8 (bt a0 (ji28)) t119 _ A32.out).mono ?_);rintro e w' ⟨rfl,⟨nd,rfl⟩⟩;(try first|exact ⟨rfl,_,World.drewN_drewN _ _ _⟩|exact ⟨rfl,_,Eq.trans (World.drewN_drewN _ _ _) (congrArg (World.drewN _) (Nat.add_assoc _ _ _))⟩))))
               go_meet
               case rel=>exact ⟨_,(ji28),(wrap64 ((wrap64 (t118 * 16)) + t119)),(by first|rfl|(simp only [i64_w,i32_w];done)|(simp only [i64_w,i32_w];rfl)|(simp;done)|(simp only [← hji28] <;> (first|rfl|simp))|(simp [*];done)),(by first|rfl|(simp;done)|(simp only [i64_w,i32_w];done)|(simp only [i64_w,i32_w];rfl)|(simp [*];done)|(simp [emp_bne,emp_beq];done)),H',⟨by have:=HK1.out;have:=HJ8.out;first|omega|exact Nat.le_refl _⟩,⟨by repeat (first|(with_reducible first|exact HB.out|apply below_alloc|apply pw_below_drewN|apply below_drew1)|exact HB.out)⟩⟩
              ·rw [if_neg c30] at H
               exact absurd H (by simp)
             ·rw [if_neg c29] at H
              exact absurd H (by simp)
            ·rw [if_neg c25] at H
             exact absurd H (by simp)
           ·rw [if_neg c24] at H
            exact absurd H (by simp)
       ·rw [if_neg c8] at H
        have c8b0:((bt a0 x5_1) == 37) = false:=beq_eq_false_iff_ne.mpr c8
        have c8b1:((bt a0 x5_1) != 37) = true:=bne_iff_ne.mpr c8
        (first|rw [c8b0]|(simp only [i64_w,i32_w];rw [c8b0])|skip)
        have H':=Aside0.mk H
        clear H
        go_wp2
        repeat (go_quiet (fail);try go_wp2)
        go_meet
        case rel=>exact ⟨_,(x5_1),(wrap64 (bt a0 x5_1)),(by first|rfl|(simp;done)|(simp only [i64_w,i32_w];done)|(simp only [i64_w,i32_w];rfl)|(simp [*];done)|(simp [emp_bne,emp_beq];done)),(by first|rfl|(simp;done)|(simp only [i64_w,i32_w];done)|(simp only [i64_w,i32_w];rfl)|(simp [*];done)|(simp [emp_bne,emp_beq];done)),H',⟨by have:=HK1.out;first|omega|exact Nat.le_refl _⟩,⟨by repeat (first|(with_reducible first|exact HB.out|apply below_alloc|apply pw_below_drewN|apply below_drew1)|exact HB.out)⟩⟩
      case rest =>
       clear HC7
       try clear c1
       try clear p1
       try clear q1
       try clear hx1
       try clear c2
       try clear c2b0
       try clear c2b1
       try clear p2
       try clear q2
       try clear hx2
       try clear c3
       try clear c3b0
       try clear p3
       try clear q3
       try clear hx3
       try clear c4
       try clear c4b0
       try clear c5
       try clear p5
       try clear q5
       try clear hx5
       try clear p6
       try clear q6
       try clear hx6
       try clear c8
       try clear c8b0
       try clear c8b1
       try clear c10
       try clear c10b0
       try clear c12
       try clear c12b0
       try clear c13
       try clear c13b0
       try clear p14
       try clear q14
       try clear hx14
       try clear c16
       try clear c16b0
       try clear c18
       try clear c18b0
       try clear c19
       try clear c19b0
       try clear p20
       try clear q20
       try clear hx20
       try clear c22
       try clear c24
       try clear c24b0
       try clear c25
       try clear c25b0
       try clear p26
       try clear q26
       try clear hx26
       try clear c29
       try clear c29b0
       try clear c30
       try clear c30b0
       try clear p31
       try clear q31
       try clear hx31
       try clear p1
       try clear p14
       try clear p2
       try clear p20
       try clear p26
       try clear p31
       try clear p5
       try clear p6
       try clear q1
       try clear q14
       try clear q2
       try clear q20
       try clear q26
       try clear q31
       try clear q5
       try clear q6
       obtain ⟨kq,x5_6,x6_6,rfl,rfl,HA,HJ6,HB⟩:=hcut
       cases kq with
       | zero=>exact absurd HA.out (by simp [spec_EscNorm.j2])
       | succ kj6 =>
        have H:=HA.out
        clear HA
        simp only [spec_EscNorm.j2] at H
        replace H:=Option.bind_eq_some_iff.mp H
        obtain ⟨t120,A330,H⟩:=H
        replace H:(if t120 = true then ((some (([(x6_6) % 256]:List Int):List Int)).bind fun y121=>(if x4_1.size + (strOfNums y121).size ≤ 9223372036854775807 then (spec_EscNorm.l0 kj6 a0 (x4_1 ++ (strOfNums y121)) (wrap64 (x5_6 + 1))) else (none))) else ((spec_l1Sign.f x6_6).bind fun t124=>(if x4_1.size + t124.size ≤ 9223372036854775807 then (spec_EscNorm.l0 kj6 a0 (x4_1 ++ t124) (wrap64 (x5_6 + 1))) else (none)))) = some (r1,r2):=H
        have A33:=Aside0.mk A330
        clear A330
        by_cases c34:t120 = true
        ·subst c34
         have H1:((some (([(x6_6) % 256]:List Int):List Int)).bind fun y121=>(if x4_1.size + (strOfNums y121).size ≤ 9223372036854775807 then (spec_EscNorm.l0 kj6 a0 (x4_1 ++ (strOfNums y121)) (wrap64 (x5_6 + 1))) else (none))) = some (r1,r2):=by rw [if_pos rfl] at H;exact H
         clear H
         have H:=H1
         clear H1
         obtain ⟨y121,hy121⟩:∃ y_:List Int,y_ = (([(x6_6) % 256]:List Int)):=⟨_,rfl⟩
         replace H:(if x4_1.size + (strOfNums y121).size ≤ 9223372036854775807 then (spec_EscNorm.l0 kj6 a0 (x4_1 ++ (strOfNums y121)) (wrap64 (x5_6 + 1))) else (none)) = some (r1,r2):=by first|(rw [hy121];with_reducible exact H)|(have H2_:=(Option.bind_some _ _).symm.trans H;rw [hy121];with_reducible exact H2_)|(have H2_:=(Option.bind_some _ _).symm.trans H;with_reducible exact H2_)|with_reducible exact H|(rw [hy121];exact H)|exact H
         have Ny121:=Aside0.mk hy121
         clear hy121
         by_cases c35:x4_1.size + (strOfNums y121).size ≤ 9223372036854775807
         ·rw [if_pos c35] at H
          have c35b0:=eq_true c35
          have c35b1:=decide_eq_true c35
          try have c35b2:(9223372036854775807 < x4_1.size + (strOfNums y121).size) = False:=eq_false (Nat.not_lt.2 c35)
          have H':=Aside0.mk H
          clear H
          go_wp2_with (first|(go_at_call 71;(with_reducible refine (spec_l1Plain.calls ((x6_6) % 256) true _ A33.out).mono ?_);rintro e w' ⟨rfl,⟨nd,rfl⟩⟩;(try first|exact ⟨rfl,_,World.drewN_drewN _ _ _⟩|exact ⟨rfl,_,Eq.trans (World.drewN_drewN _ _ _) (congrArg (World.drewN _) (Nat.add_assoc _ _ _))⟩))|((with_reducible refine gate_dst (N:=65) rfl ?_);refine Kd.R_lit (Kd.int .u8) _ 5 ?hg (N:=65) ?hd (xs:=([(x6_6) % 256]:List Int)) (inner:=[.int .u8 ((x6_6) % 256)]) (ok:=fun _=>True) (okp:=fun _=>True) ?hr ?hp (fun _ hk=>hk) trivial (Below.refl _ _) (Nat.le_refl _) (by simp) ?_;(case hd=>rfl);(case hg=>rfl);(case hr=>first|(go_simp;done)|(go_simp;rfl));(case hp=>exact (Reps.one (show Kd.M (Kd.int .u8) _ _ _ ((x6_6) % 256) [.int .u8 ((x6_6) % 256)] from rfl) (Reps.none _ _)));intro v122 w36 ho37 hb hg_ hnew_;clear hg_ hnew_;(first|rw [← Ny121.out] at ho37|(simp only [Int.reduceToNat] at ho37;rw [← Ny121.out] at ho37));have n0_:=Aside0.mk (Kd.R_lower ho37 (below_size (by repeat (first|(with_reducible first|exact HB.out|apply below_alloc|apply pw_below_drewN|apply below_drew1)|exact HB.out))));have n1_:=Aside0.mk (below_step (by repeat (first|(with_reducible first|exact HB.out|apply below_alloc|apply pw_below_drewN|apply below_drew1)|exact HB.out)) hb);clear HB;have HO123:=n0_;have HB:=n1_;clear n0_ n1_;clear hb ho37;have hcv38:=own_string (P:=Tryd.prog) Tryd.underlying30 Tryd.underlying5 Tryd.underlying9 (Kd.own_of_R HO123.out)))
          repeat (go_quiet (first|(go_at_call 71;(with_reducible refine (spec_l1Plain.calls ((x6_6) % 256) true _ A33.out).mono ?_);rintro e w' ⟨rfl,⟨nd,rfl⟩⟩;(try first|exact ⟨rfl,_,World.drewN_drewN _ _ _⟩|exact ⟨rfl,_,Eq.trans (World.drewN_drewN _ _ _) (congrArg (World.drewN _) (Nat.add_assoc _ _ _))⟩))|((with_reducible refine gate_dst (N:=65) rfl ?_);refine Kd.R_lit (Kd.int .u8) _ 5 ?hg (N:=65) ?hd (xs:=([(x6_6) % 256]:List Int)) (inner:=[.int .u8 ((x6_6) % 256)]) (ok:=fun _=>True) (okp:=fun _=>True) ?hr ?hp (fun _ hk=>hk) trivial (Below.refl _ _) (Nat.le_refl _) (by simp) ?_;(case hd=>rfl);(case hg=>rfl);(case hr=>first|(go_simp;done)|(go_simp;rfl));(case hp=>exact (Reps.one (show Kd.M (Kd.int .u8) _ _ _ ((x6_6) % 256) [.int .u8 ((x6_6) % 256)] from rfl) (Reps.none _ _)));intro v122 w36 ho37 hb hg_ hnew_;clear hg_ hnew_;(first|rw [← Ny121.out] at ho37|(simp only [Int.reduceToNat] at ho37;rw [← Ny121.out] at ho37));have n0_:=Aside0.mk (Kd.R_lower ho37 (below_size (by repeat (first|(with_reducible first|exact HB.out|apply below_alloc|apply pw_below_drewN|apply below_drew1)|exact HB.out))));have n1_:=Aside0.mk (below_step (by repeat (first|(with_reducible first|exact HB.out|apply below_alloc|apply pw_below_drewN|apply below_drew1)|exact HB.out)) hb);clear HB;have HO123:=n0_;have HB:=n1_;clear n0_ n1_;clear hb ho37;have hcv38:=own_string (P:=Tryd.prog) Tryd.underlying30 Tryd.underlying5 Tryd.underlying9 (Kd.own_of_R HO123.out)));try go_wp2_with (first|(go_at_call 71;(with_reducible refine (spec_l1Plain.calls ((x6_6) % 256) true _ A33.out).mono ?_);rintro e w' ⟨rfl,⟨nd,rfl⟩⟩;(try first|exact ⟨rfl,_,World.drewN_drewN _ _ _⟩|exact ⟨rfl,_,Eq.trans (World.drewN_drewN _ _ _) (congrArg (World.drewN _) (Nat.add_assoc _ _ _))⟩))|((with_reducible refine gate_dst (N:=65) rfl ?_);refine Kd.R_lit (Kd.int .u8) _ 5 ?hg (N:=65) ?hd (xs:=([(x6_6) % 256]:List Int)) (inner:=[.int .u8 ((x6_6) % 256)]) (ok:=fun _=>True) (okp:=fun _=>True) ?hr ?hp (fun _ hk=>hk) trivial (Below.refl _ _) (Nat.le_refl _) (by simp) ?_;(case hd=>rfl);(case hg=>rfl);(case hr=>first|(go_simp;done)|(go_simp;rfl));(case hp=>exact (Reps.one (show Kd.M (Kd.int .u8) _ _ _ ((x6_6) % 256) [.int .u8 ((x6_6) % 256)] from rfl) (Reps.none _ _)));intro v122 w36 ho37 hb hg_ hnew_;clear hg_ hnew_;(first|rw [← Ny121.out] at ho37|(simp only [Int.reduceToNat] at ho37;rw [← Ny121.out] at ho37));have n0_:=Aside0.mk (Kd.R_lower ho37 (below_size (by repeat (first|(with_reducible first|exact HB.out|apply below_alloc|apply pw_below_drewN|apply below_drew1)|exact HB.out))));have n1_:=Aside0.mk (below_step (by repeat (first|(with_reducible first|exact HB.out|apply below_alloc|apply pw_below_drewN|apply below_drew1)|exact HB.out)) hb);clear HB;have HO123:=n0_;have HB:=n1_;clear n0_ n1_;clear hb ho37;have hcv38:=own_string (P:=Tryd.prog) Tryd.underlying30 Tryd.underlying5 Tryd.underlying9 (Kd.own_of_R HO123.out))))
          go_roundg kj6
          case measure=>have:=HK1.out;have:=HJ6.out;omega
          case rel=>exact ⟨(x4_1 ++ (strOfNums y121)),(wrap64 (x5_6 + 1)),(by first|rfl|(simp;done)|(simp only [i64_w,i32_w];done)|(simp only [i64_w,i32_w];rfl)|(simp [*];done)|(simp [emp_bne,emp_beq];done)),(by first|rfl|(simp;done)|(simp only [i64_w,i32_w];done)|(simp only [i64_w,i32_w];rfl)|(simp [*];done)|(simp [emp_bne,emp_beq];done)),H',⟨by have:=HK1.out;have:=HJ6.out;omega⟩,⟨by repeat (first|(with_reducible first|exact HB.out|apply below_alloc|apply pw_below_drewN|apply below_drew1)|exact HB.out)⟩⟩
         ·rw [if_neg c35] at H
          exact absurd H (by simp)
        ·replace c34:=Bool.eq_false_iff.mpr c34
         subst c34
         have H1:((spec_l1Sign.f x6_6).bind fun t124=>(if x4_1.size + t124.size ≤ 9223372036854775807 then (spec_EscNorm.l0 kj6 a0 (x4_1 ++ t124) (wrap64 (x5_6 + 1))) else (none))) = some (r1,r2):=by rw [if_neg (show ¬ (false = true) by decide)] at H;exact H
         clear H
         have H:=H1
         clear H1
         replace H:=Option.bind_eq_some_iff.mp H
         obtain ⟨t124,A390,H⟩:=H
         replace H:(if x4_1.size + t124.size ≤ 9223372036854775807 then (spec_EscNorm.l0 kj6 a0 (x4_1 ++ t124) (wrap64 (x5_6 + 1))) else (none)) = some (r1,r2):=H
         have A39:=Aside0.mk A390
         clear A390
         by_cases c40:x4_1.size + t124.size ≤ 9223372036854775807
         ·rw [if_pos c40] at H
          have c40b0:=eq_true c40
          have c40b1:=decide_eq_true c40
          try have c40b2:(9223372036854775807 < x4_1.size + t124.size) = False:=eq_false (Nat.not_lt.2 c40)
          have H':=Aside0.mk H
          clear H
          go_wp2_with (first|(go_at_call 71;(with_reducible refine (spec_l1Plain.calls ((x6_6) % 256) false _ A33.out).mono ?_);rintro e w' ⟨rfl,⟨nd,rfl⟩⟩;(try first|exact ⟨rfl,_,World.drewN_drewN _ _ _⟩|exact ⟨rfl,_,Eq.trans (World.drewN_drewN _ _ _) (congrArg (World.drewN _) (Nat.add_assoc _ _ _))⟩))|(go_at_call 72;(with_reducible refine (spec_l1Sign.calls x6_6 t124 _ A39.out).mono ?_);rintro e w' ⟨rfl,⟨nd,rfl⟩⟩;(try first|exact ⟨rfl,_,World.drewN_drewN _ _ _⟩|exact ⟨rfl,_,Eq.trans (World.drewN_drewN _ _ _) (congrArg (World.drewN _) (Nat.add_assoc _ _ _))⟩)))
          repeat (go_quiet (first|(go_at_call 71;(with_reducible refine (spec_l1Plain.calls ((x6_6) % 256) false _ A33.out).mono ?_);rintro e w' ⟨rfl,⟨nd,rfl⟩⟩;(try first|exact ⟨rfl,_,World.drewN_drewN _ _ _⟩|exact ⟨rfl,_,Eq.trans (World.drewN_drewN _ _ _) (congrArg (World.drewN _) (Nat.add_assoc _ _ _))⟩))|(go_at_call 72;(with_reducible refine (spec_l1Sign.calls x6_6 t124 _ A39.out).mono ?_);rintro e w' ⟨rfl,⟨nd,rfl⟩⟩;(try first|exact ⟨rfl,_,World.drewN_drewN _ _ _⟩|exact ⟨rfl,_,Eq.trans (World.drewN_drewN _ _ _) (congrArg (World.drewN _) (Nat.add_assoc _ _ _))⟩)));try go_wp2_with (first|(go_at_call 71;(with_reducible refine (spec_l1Plain.calls ((x6_6) % 256) false _ A33.out).mono ?_);rintro e w' ⟨rfl,⟨nd,rfl⟩⟩;(try first|exact ⟨rfl,_,World.drewN_drewN _ _ _⟩|exact ⟨rfl,_,Eq.trans (World.drewN_drewN _ _ _) (congrArg (World.drewN _) (Nat.add_assoc _ _ _))⟩))|(go_at_call 72;(with_reducible refine (spec_l1Sign.calls x6_6 t124 _ A39.out).mono ?_);rintro e w' ⟨rfl,⟨nd,rfl⟩⟩;(try first|exact ⟨rfl,_,World.drewN_drewN _ _ _⟩|exact ⟨rfl,_,Eq.trans (World.drewN_drewN _ _ _) (congrArg (World.drewN _) (Nat.add_assoc _ _ _))⟩))))
          go_roundg kj6
          case measure=>have:=HK1.out;have:=HJ6.out;omega
          case rel=>exact ⟨(x4_1 ++ t124),(wrap64 (x5_6 + 1)),(by first|rfl|(simp;done)|(simp only [i64_w,i32_w];done)|(simp only [i64_w,i32_w];rfl)|(simp [*];done)|(simp [emp_bne,emp_beq];done)),(by first|rfl|(simp;done)|(simp only [i64_w,i32_w];done)|(simp only [i64_w,i32_w];rfl)|(simp [*];done)|(simp [emp_bne,emp_beq];done)),H',⟨by have:=HK1.out;have:=HJ6.out;omega⟩,⟨by repeat (first|(with_reducible first|exact HB.out|apply below_alloc|apply pw_below_drewN|apply below_drew1)|exact HB.out)⟩⟩
         ·rw [if_neg c40] at H
          exact absurd H (by simp)
     ·rw [if_neg c4] at H
      exact absurd H (by simp)
    ·rw [if_neg c3] at H
     have c3b0:decide (x5_1 < (a0.size:Int)) = false:=decide_eq_false c3
     clear c3
     simp only [Option.some.injEq,Prod.mk.injEq] at H
     obtain ⟨rfl,rfl⟩:=H
     go_wp2
     repeat (go_quiet (fail);try go_wp2)
     go_ret2
     exact ⟨by first|rfl|(simp <;> rfl)|(simp [*] <;> rfl),by repeat (first|(with_reducible first|exact HB.out|apply below_alloc|apply pw_below_drewN|apply below_drew1)|exact HB.out)⟩

/-! ### spec_l1Norm: function 49 -/
def spec_l1Norm.f (k:Nat) (a0:ByteArray):Option (Bool):=(spec_EscNorm.f k a0).bind fun bt125=>(if bt125.2 = true then (some (bt125.1.toList == a0.toList)) else (some false))
theorem spec_l1Norm.mono:∀ a0 k,LeO (spec_l1Norm.f k a0) (spec_l1Norm.f (k + 1) a0):=by
 intro a0 k
 unfold spec_l1Norm.f
 repeat' first
   | (with_reducible exact spec_EscNorm.mono _ _)
   | (with_reducible exact LeO.refl _)
   | (with_reducible exact LeO.none _)
   | (with_reducible refine LeO.ite ?_ ?_)
   | (with_reducible refine LeO.bind ?_ (fun _=>?_))
   | exact spec_EscNorm.mono _ _
   | exact LeO.none _
   | refine LeO.ite ?_ ?_
   | refine LeO.bind ?_ (fun _=>?_)
theorem spec_l1Norm.calls (k:Nat) (a0:ByteArray) (r:Bool) (w:World) (h:spec_l1Norm.f k a0 = some r) :
  Calls Tryd.prog 49 #[.string a0] w fun e w'=>e = .returned (.bool r) ∧ Below w.heap.size w w':=by
 have HB:=Aside0.mk (Below.refl w.heap.size w)
 have H:((spec_EscNorm.f k a0).bind fun bt125=>(if bt125.2 = true then (some (bt125.1.toList == a0.toList)) else (some false))) = some r:=h
 clear h
 replace H:=Option.bind_eq_some_iff.mp H
 obtain ⟨⟨t125,t126⟩,A20,H⟩:=H
 replace H:(if t126 = true then (some (t125.toList == a0.toList)) else (some false)) = some r:=H
 have A2:=Aside0.mk A20
 clear A20
 by_cases c3:t126 = true
 ·subst c3
  have H1:(some (t125.toList == a0.toList)) = some r:=by rw [if_pos rfl] at H;exact H
  clear H
  have H:=H1
  clear H1
  obtain rfl:=Option.some.inj H
  go_enter Tryd.func49,Tryd.ntmps49
  go_wp2_with (first|((with_reducible refine gate_callee (f:=54) rfl ?_);refine goesL_ (some 7) rfl rfl Tryd.func54 (by kernel_rfl) rfl #[.string a0] rfl (by (try simp only [List.map_toArray,List.map_cons,List.map_nil]);first|done|rfl|(simp only [List.length_drop,List.length_take];rfl)) ?_;(with_reducible refine (spec_EscNorm.calls k a0 t125 true _ A2.out).mono ?_);rintro e w4 ⟨rfl,hb⟩;refine ⟨_,rfl,?_⟩;have n0_:=Aside0.mk (below_step (by repeat (first|(with_reducible first|exact HB.out|apply below_alloc|apply pw_below_drewN|apply below_drew1)|exact HB.out)) hb);clear HB;have HB:=n0_;clear n0_;(try clear hb);(try clear hb2);(try clear hk);(try clear hi)))
  go_ret
  exact ⟨by first|rfl|(simp <;> rfl)|(simp [*] <;> rfl),by repeat (first|(with_reducible first|exact HB.out|apply below_alloc|apply pw_below_drewN|apply below_drew1)|exact HB.out)⟩
 ·replace c3:=Bool.eq_false_iff.mpr c3
  subst c3
  have H1:(some false) = some r:=by rw [if_neg (show ¬ (false = true) by decide)] at H;exact H
  clear H
  have H:=H1
  clear H1
  obtain rfl:=Option.some.inj H
  go_enter Tryd.func49,Tryd.ntmps49
  go_wp2_with (first|((with_reducible refine gate_callee (f:=54) rfl ?_);refine goesL_ (some 7) rfl rfl Tryd.func54 (by kernel_rfl) rfl #[.string a0] rfl (by (try simp only [List.map_toArray,List.map_cons,List.map_nil]);first|done|rfl|(simp only [List.length_drop,List.length_take];rfl)) ?_;(with_reducible refine (spec_EscNorm.calls k a0 t125 false _ A2.out).mono ?_);rintro e w5 ⟨rfl,hb⟩;refine ⟨_,rfl,?_⟩;have n0_:=Aside0.mk (below_step (by repeat (first|(with_reducible first|exact HB.out|apply below_alloc|apply pw_below_drewN|apply below_drew1)|exact HB.out)) hb);clear HB;have HB:=n0_;clear n0_;(try clear hb);(try clear hb2);(try clear hk);(try clear hi)))
  go_ret
  exact ⟨by first|rfl|(simp <;> rfl)|(simp [*] <;> rfl),by repeat (first|(with_reducible first|exact HB.out|apply below_alloc|apply pw_below_drewN|apply below_drew1)|exact HB.out)⟩

/-! ### spec_AddrOk: function 29 -/
mutual
def spec_AddrOk.j0:Nat → Bool → ByteArray → List ByteArray → Bool → ByteArray → Option (Bool)
 | 0,_,_,_,_,_=>none
 | k + 1,x29,x128000,x128001,x128002,x128003=>if x29 = true then (some false) else (spec_AddrOk.l0 k 0 x128000 x128001 x128002 x128003)
def spec_AddrOk.l0:Nat → Int → ByteArray → List ByteArray → Bool → ByteArray → Option (Bool)
 | 0,_,_,_,_,_=>none
 | k + 1,x3,x128000,x128001,x128002,x128003=>if x3 < (x128001.length:Int) then (if 0 ≤ x3 then ((spec_l1Norm.f k (rdOf ByteArray.empty x128001 x3)).bind fun t131=>(if t131 = true then (if (rdOf ByteArray.empty x128001 x3).toList = ([]:List UInt8) then (some false) else (if (rdOf ByteArray.empty x128001 x3).toList = ([46]:List UInt8) then (some false) else (if (rdOf ByteArray.empty x128001 x3).toList = ([46,46]:List UInt8) then (some false) else (spec_AddrOk.l0 k (wrap64 (x3 + 1)) x128000 x128001 x128002 x128003)))) else (some false))) else (none)) else ((spec_l1Text.f k x128000 x128001 x128002 x128003).bind fun t135=>(some (decide ((t135.size:Int) ≤ 60))))
end
def spec_AddrOk.f (k:Nat) (a0_0:ByteArray) (l0_1:List ByteArray) (a0_2:Bool) (a0_3:ByteArray):Option (Bool):=(spec_l1House.f k a0_0).bind fun t128=>(if t128 = true then (if (l0_1.length:Int) > 5 then (spec_AddrOk.j0 k true a0_0 l0_1 a0_2 a0_3) else ((spec_l1Norm.f k a0_3).bind fun t129=>(if t129 = true then (if a0_2 = true then (spec_AddrOk.j0 k false a0_0 l0_1 a0_2 a0_3) else (spec_AddrOk.j0 k (a0_3.toList != ([]:List UInt8)) a0_0 l0_1 a0_2 a0_3)) else (spec_AddrOk.j0 k true a0_0 l0_1 a0_2 a0_3)))) else (spec_AddrOk.j0 k true a0_0 l0_1 a0_2 a0_3))
theorem spec_AddrOk.mono_l:∀ k,(∀ y0 y1 y2 y3 y4,LeO (spec_AddrOk.j0 k y0 y1 y2 y3 y4) (spec_AddrOk.j0 (k + 1) y0 y1 y2 y3 y4)) ∧ (∀ y0 y1 y2 y3 y4,LeO (spec_AddrOk.l0 k y0 y1 y2 y3 y4) (spec_AddrOk.l0 (k + 1) y0 y1 y2 y3 y4))
 | 0=>⟨fun _ _ _ _ _ r h=>by simp [spec_AddrOk.j0] at h,fun _ _ _ _ _ r h=>by simp [spec_AddrOk.l0] at h⟩
 | k + 1=>by
  obtain ⟨ih0,ih1⟩:=spec_AddrOk.mono_l k
  refine ⟨?_,?_⟩
  ·intro y0 y1 y2 y3 y4
   unfold spec_AddrOk.j0
   repeat' first
   | (with_reducible exact ih0 _ _ _ _ _)
   | (with_reducible exact ih1 _ _ _ _ _)
   | (with_reducible exact spec_l1House.mono _ _)
   | (with_reducible exact spec_l1Norm.mono _ _)
   | (with_reducible exact spec_l1Text.mono _ _ _ _ _)
   | (with_reducible exact LeO.refl _)
   | (with_reducible exact LeO.none _)
   | (with_reducible refine LeO.ite ?_ ?_)
   | (with_reducible refine LeO.bind ?_ (fun _=>?_))
   | exact ih0 _ _ _ _ _
   | exact ih1 _ _ _ _ _
   | exact spec_l1House.mono _ _
   | exact spec_l1Norm.mono _ _
   | exact spec_l1Text.mono _ _ _ _ _
   | exact LeO.none _
   | refine LeO.ite ?_ ?_
   | refine LeO.bind ?_ (fun _=>?_)
  ·intro y0 y1 y2 y3 y4
   unfold spec_AddrOk.l0
   repeat' first
   | (with_reducible exact ih0 _ _ _ _ _)
   | (with_reducible exact ih1 _ _ _ _ _)
   | (with_reducible exact spec_l1House.mono _ _)
   | (with_reducible exact spec_l1Norm.mono _ _)
   | (with_reducible exact spec_l1Text.mono _ _ _ _ _)
   | (with_reducible exact LeO.refl _)
   | (with_reducible exact LeO.none _)
   | (with_reducible refine LeO.ite ?_ ?_)
   | (with_reducible refine LeO.bind ?_ (fun _=>?_))
   | exact ih0 _ _ _ _ _
   | exact ih1 _ _ _ _ _
   | exact spec_l1House.mono _ _
   | exact spec_l1Norm.mono _ _
   | exact spec_l1Text.mono _ _ _ _ _
   | exact LeO.none _
   | refine LeO.ite ?_ ?_
   | refine LeO.bind ?_ (fun _=>?_)
theorem spec_AddrOk.mono:∀ a0 a1 a2 a3 k,LeO (spec_AddrOk.f k a0 a1 a2 a3) (spec_AddrOk.f (k + 1) a0 a1 a2 a3):=by
 intro a0 a1 a2 a3 k
 obtain ⟨ih0,ih1⟩:=spec_AddrOk.mono_l k
 unfold spec_AddrOk.f
 repeat' first
   | (with_reducible exact ih0 _ _ _ _ _)
   | (with_reducible exact ih1 _ _ _ _ _)
   | (with_reducible exact spec_l1House.mono _ _)
   | (with_reducible exact spec_l1Norm.mono _ _)
   | (with_reducible exact spec_l1Text.mono _ _ _ _ _)
   | (with_reducible exact LeO.refl _)
   | (with_reducible exact LeO.none _)
   | (with_reducible refine LeO.ite ?_ ?_)
   | (with_reducible refine LeO.bind ?_ (fun _=>?_))
   | exact ih0 _ _ _ _ _
   | exact ih1 _ _ _ _ _
   | exact spec_l1House.mono _ _
   | exact spec_l1Norm.mono _ _
   | exact spec_l1Text.mono _ _ _ _ _
   | exact LeO.none _
   | refine LeO.ite ?_ ?_
   | refine LeO.bind ?_ (fun _=>?_)
theorem spec_AddrOk.calls (k:Nat) (a0_0:ByteArray) (A0_1:Option Addr) (c0_1:Nat) (l0_1:List ByteArray) (a0_2:Bool) (a0_3:ByteArray) (r:Bool) (w:World) (hr0_1:Kd.C Kd.string w A0_1 l0_1.length l0_1) (hc0_1:l0_1.length ≤ c0_1) (h:spec_AddrOk.f k a0_0 l0_1 a0_2 a0_3 = some r) :
  Calls Tryd.prog 29 #[.agg #[.string a0_0, .slice A0_1 l0_1.length c0_1, .bool a0_2, .string a0_3]] w fun e w'=>e = .returned (.bool r) ∧ Below w.heap.size w w':=by
 have hu24:=Tryd.underlying24
 have HR0_1:=Aside0.mk hr0_1
 have HC0_1:=Aside0.mk hc0_1
 clear hr0_1 hc0_1
 have HB:=Aside0.mk (Below.refl w.heap.size w)
 have H:((spec_l1House.f k a0_0).bind fun t128=>(if t128 = true then (if (l0_1.length:Int) > 5 then (spec_AddrOk.j0 k true a0_0 l0_1 a0_2 a0_3) else ((spec_l1Norm.f k a0_3).bind fun t129=>(if t129 = true then (if a0_2 = true then (spec_AddrOk.j0 k false a0_0 l0_1 a0_2 a0_3) else (spec_AddrOk.j0 k (a0_3.toList != ([]:List UInt8)) a0_0 l0_1 a0_2 a0_3)) else (spec_AddrOk.j0 k true a0_0 l0_1 a0_2 a0_3)))) else (spec_AddrOk.j0 k true a0_0 l0_1 a0_2 a0_3))) = some r:=h
 clear h
 have HC2:=Aside0.mk H
 clear H
 go_enter Tryd.func29,Tryd.ntmps29
 go_upto_region 1 with (first|((with_reducible refine gate_dst (N:=1) rfl ?_);(try (refine gate_guard (by rfl) ?_;dsimp only));refine box_event ?hg (N:=1) ?hd (cs:=#[.string a0_0, .slice A0_1 l0_1.length c0_1, .bool a0_2, .string a0_3]) (t:=24) ?hr ?_;(case hd=>rfl);(case hg=>rfl);(case hr=>first|(go_simp;done)|(go_simp;rfl));intro gb127 hg w3 hbox hb;have n0_:=Aside0.mk (below_step (by repeat (first|(with_reducible first|exact HB.out|apply below_alloc|apply pw_below_drewN|apply below_drew1)|exact HB.out)) hb);have n1_:=Aside0.mk (hbox);have n2_:=Aside0.mk ((by rw [hg];exact (below_size (by repeat (first|(with_reducible first|exact HB.out|apply below_alloc|apply pw_below_drewN|apply below_drew1)|exact HB.out))):w.heap.size ≤ gb127));have n3_:=n2_;clear HB;have HB:=n0_;have BK127:=n1_;have GW127:=n2_;have GE127:=n3_;clear n0_ n1_ n2_ n3_;clear hb hbox hg))
 (try simp only [Act.put,List.setIfInBounds_toArray,List.set_cons_zero,List.set_cons_succ])
 go_cut [29] (fun v29 wc=>∃ (kq:Nat) (x29_1:Bool),v29 = .bool x29_1 ∧ Aside0 (spec_AddrOk.j0 kq x29_1 a0_0 l0_1 a0_2 a0_3 = some r) ∧ Aside0 (kq ≤ k) ∧ Aside0 (wc.heap[gb127]? = some (.cells #[.string a0_0,(.slice A0_1 l0_1.length c0_1), .bool a0_2, .string a0_3] 24 (0,0))) ∧ Aside0 (Below w.heap.size w wc))
 case first =>
  have H:=HC2.out
  clear HC2
  replace H:=Option.bind_eq_some_iff.mp H
  obtain ⟨t128,A40,H⟩:=H
  replace H:(if t128 = true then (if (l0_1.length:Int) > 5 then (spec_AddrOk.j0 k true a0_0 l0_1 a0_2 a0_3) else ((spec_l1Norm.f k a0_3).bind fun t129=>(if t129 = true then (if a0_2 = true then (spec_AddrOk.j0 k false a0_0 l0_1 a0_2 a0_3) else (spec_AddrOk.j0 k (a0_3.toList != ([]:List UInt8)) a0_0 l0_1 a0_2 a0_3)) else (spec_AddrOk.j0 k true a0_0 l0_1 a0_2 a0_3)))) else (spec_AddrOk.j0 k true a0_0 l0_1 a0_2 a0_3)) = some r:=H
  have A4:=Aside0.mk A40
  clear A40
  by_cases c5:t128 = true
  ·subst c5
   have H1:(if (l0_1.length:Int) > 5 then (spec_AddrOk.j0 k true a0_0 l0_1 a0_2 a0_3) else ((spec_l1Norm.f k a0_3).bind fun t129=>(if t129 = true then (if a0_2 = true then (spec_AddrOk.j0 k false a0_0 l0_1 a0_2 a0_3) else (spec_AddrOk.j0 k (a0_3.toList != ([]:List UInt8)) a0_0 l0_1 a0_2 a0_3)) else (spec_AddrOk.j0 k true a0_0 l0_1 a0_2 a0_3)))) = some r:=by rw [if_pos rfl] at H;exact H
   clear H
   have H:=H1
   clear H1
   by_cases c6:(l0_1.length:Int) > 5
   ·rw [if_pos c6] at H
    have c6b0:decide (5 < (l0_1.length:Int)) = true:=decide_eq_true c6
    have c6b1:decide (5 < l0_1.length) = true:=decide_eq_true (by omega)
    clear c6
    (first|rw [c6b0]|(simp only [i64_w,i32_w];rw [c6b0])|skip)
    have H':=Aside0.mk H
    clear H
    have hcz7_0:w3.cell? ⟨gb127,0,none⟩ = some (.string a0_0):=(blk_cell BK127.out 0).trans rfl
    have hcz7_1:w3.cell? ⟨gb127,1,none⟩ = some (.slice A0_1 l0_1.length c0_1):=(blk_cell BK127.out 1).trans rfl
    have hcz7_2:w3.cell? ⟨gb127,2,none⟩ = some (.bool a0_2):=(blk_cell BK127.out 2).trans rfl
    have hcz7_3:w3.cell? ⟨gb127,3,none⟩ = some (.string a0_3):=(blk_cell BK127.out 3).trans rfl
    have hfz7_0:=blk_frozen BK127.out 0
    have hfz7_1:=blk_frozen BK127.out 1
    have hfz7_2:=blk_frozen BK127.out 2
    have hfz7_3:=blk_frozen BK127.out 3
    go_wp2_with (first|((with_reducible refine gate_callee (f:=48) rfl ?_);refine goesL_ (some 6) rfl rfl Tryd.func48 (by kernel_rfl) rfl #[.string a0_0] rfl (by (try simp only [List.map_toArray,List.map_cons,List.map_nil]);first|done|rfl|(simp only [List.length_drop,List.length_take];rfl)) ?_;(with_reducible refine (spec_l1House.calls k a0_0 true _ A4.out).mono ?_);rintro e w' ⟨rfl,⟨nd,rfl⟩⟩;refine ⟨_,rfl,?_⟩))
    go_meet
    case rel=>exact ⟨_,(true),(by first|rfl|(simp;done)|(simp only [i64_w,i32_w];done)|(simp only [i64_w,i32_w];rfl)|(simp [*];done)|(simp [emp_bne,emp_beq];done)),H',⟨by first|omega|exact Nat.le_refl _⟩,⟨by (with_reducible repeat (first|refine blk_drewN ?_ _|refine blk_drew ?_|refine blk_alloc ?_ _));exact BK127.out⟩,⟨by repeat (first|(with_reducible first|exact HB.out|apply below_alloc|apply pw_below_drewN|apply below_drew1|refine below_set ?_ GE127.out)|exact HB.out)⟩⟩
   ·rw [if_neg c6] at H
    have c6b0:decide (5 < (l0_1.length:Int)) = false:=decide_eq_false c6
    have c6b1:decide (5 < l0_1.length) = false:=decide_eq_false (by omega)
    clear c6
    (first|rw [c6b0]|(simp only [i64_w,i32_w];rw [c6b0])|skip)
    replace H:=Option.bind_eq_some_iff.mp H
    obtain ⟨t129,A80,H⟩:=H
    replace H:(if t129 = true then (if a0_2 = true then (spec_AddrOk.j0 k false a0_0 l0_1 a0_2 a0_3) else (spec_AddrOk.j0 k (a0_3.toList != ([]:List UInt8)) a0_0 l0_1 a0_2 a0_3)) else (spec_AddrOk.j0 k true a0_0 l0_1 a0_2 a0_3)) = some r:=H
    have A8:=Aside0.mk A80
    clear A80
    by_cases c9:t129 = true
    ·subst c9
     have H1:(if a0_2 = true then (spec_AddrOk.j0 k false a0_0 l0_1 a0_2 a0_3) else (spec_AddrOk.j0 k (a0_3.toList != ([]:List UInt8)) a0_0 l0_1 a0_2 a0_3)) = some r:=by rw [if_pos rfl] at H;exact H
     clear H
     have H:=H1
     clear H1
     by_cases c10:a0_2 = true
     ·subst c10
      have H1:(spec_AddrOk.j0 k false a0_0 l0_1 true a0_3) = some r:=by rw [if_pos rfl] at H;exact H
      clear H
      have H:=H1
      clear H1
      have H':=Aside0.mk H
      clear H
      have hcz11_0:w3.cell? ⟨gb127,0,none⟩ = some (.string a0_0):=(blk_cell BK127.out 0).trans rfl
      have hcz11_1:w3.cell? ⟨gb127,1,none⟩ = some (.slice A0_1 l0_1.length c0_1):=(blk_cell BK127.out 1).trans rfl
      have hcz11_2:w3.cell? ⟨gb127,2,none⟩ = some (.bool true):=(blk_cell BK127.out 2).trans rfl
      have hcz11_3:w3.cell? ⟨gb127,3,none⟩ = some (.string a0_3):=(blk_cell BK127.out 3).trans rfl
      have hfz11_0:=blk_frozen BK127.out 0
      have hfz11_1:=blk_frozen BK127.out 1
      have hfz11_2:=blk_frozen BK127.out 2
      have hfz11_3:=blk_frozen BK127.out 3
      go_wp2_with (first|((with_reducible refine gate_callee (f:=48) rfl ?_);refine goesL_ (some 6) rfl rfl Tryd.func48 (by kernel_rfl) rfl #[.string a0_0] rfl (by (try simp only [List.map_toArray,List.map_cons,List.map_nil]);first|done|rfl|(simp only [List.length_drop,List.length_take];rfl)) ?_;(with_reducible refine (spec_l1House.calls k a0_0 true _ A4.out).mono ?_);rintro e w' ⟨rfl,⟨nd,rfl⟩⟩;refine ⟨_,rfl,?_⟩)|(go_at_call 49;(with_reducible refine (spec_l1Norm.calls k a0_3 true _ A8.out).mono ?_);rintro e w12 ⟨rfl,hb⟩;have n0_:=Aside0.mk (blk_below (g:=gb127) (o:=.cells #[.string a0_0, .slice A0_1 l0_1.length c0_1, .bool true, .string a0_3] 24 (0,0)) (by (with_reducible repeat (first|refine blk_drewN ?_ _|refine blk_drew ?_|refine blk_alloc ?_ _));exact BK127.out) hb);have n1_:=Aside0.mk (below_step (by repeat (first|(with_reducible first|exact HB.out|apply below_alloc|apply pw_below_drewN|apply below_drew1|refine below_set ?_ GE127.out)|exact HB.out)) hb);clear BK127;clear HB;have BK127:=n0_;have HB:=n1_;clear n0_ n1_;(try clear hb);(try clear hb2);(try clear hk);(try clear hi);have hcz13_0:w12.cell? ⟨gb127,0,none⟩ = some (.string a0_0):=(blk_cell BK127.out 0).trans rfl;have hcz13_1:w12.cell? ⟨gb127,1,none⟩ = some (.slice A0_1 l0_1.length c0_1):=(blk_cell BK127.out 1).trans rfl;have hcz13_2:w12.cell? ⟨gb127,2,none⟩ = some (.bool true):=(blk_cell BK127.out 2).trans rfl;have hcz13_3:w12.cell? ⟨gb127,3,none⟩ = some (.string a0_3):=(blk_cell BK127.out 3).trans rfl;have hfz13_0:=blk_frozen BK127.out 0;have hfz13_1:=blk_frozen BK127.out 1;have hfz13_2:=blk_frozen BK127.out 2;have hfz13_3:=blk_frozen BK127.out 3))
      go_meet
      case rel=>exact ⟨_,(false),(by first|rfl|(simp;done)|(simp only [i64_w,i32_w];done)|(simp only [i64_w,i32_w];rfl)|(simp [*];done)|(simp [emp_bne,emp_beq];done)),H',⟨by first|omega|exact Nat.le_refl _⟩,⟨by (with_reducible repeat (first|refine blk_drewN ?_ _|refine blk_drew ?_|refine blk_alloc ?_ _));exact BK127.out⟩,⟨by repeat (first|(with_reducible first|exact HB.out|apply below_alloc|apply pw_below_drewN|apply below_drew1|refine below_set ?_ GE127.out)|exact HB.out)⟩⟩
     ·replace c10:=Bool.eq_false_iff.mpr c10
      subst c10
      have H1:(spec_AddrOk.j0 k (a0_3.toList != ([]:List UInt8)) a0_0 l0_1 false a0_3) = some r:=by rw [if_neg (show ¬ (false = true) by decide)] at H;exact H
      clear H
      have H:=H1
      clear H1
      have H':=Aside0.mk H
      clear H
      have hcz14_0:w3.cell? ⟨gb127,0,none⟩ = some (.string a0_0):=(blk_cell BK127.out 0).trans rfl
      have hcz14_1:w3.cell? ⟨gb127,1,none⟩ = some (.slice A0_1 l0_1.length c0_1):=(blk_cell BK127.out 1).trans rfl
      have hcz14_2:w3.cell? ⟨gb127,2,none⟩ = some (.bool false):=(blk_cell BK127.out 2).trans rfl
      have hcz14_3:w3.cell? ⟨gb127,3,none⟩ = some (.string a0_3):=(blk_cell BK127.out 3).trans rfl
      have hfz14_0:=blk_frozen BK127.out 0
      have hfz14_1:=blk_frozen BK127.out 1
      have hfz14_2:=blk_frozen BK127.out 2
      have hfz14_3:=blk_frozen BK127.out 3
      go_wp2_with (first|((with_reducible refine gate_callee (f:=48) rfl ?_);refine goesL_ (some 6) rfl rfl Tryd.func48 (by kernel_rfl) rfl #[.string a0_0] rfl (by (try simp only [List.map_toArray,List.map_cons,List.map_nil]);first|done|rfl|(simp only [List.length_drop,List.length_take];rfl)) ?_;(with_reducible refine (spec_l1House.calls k a0_0 true _ A4.out).mono ?_);rintro e w' ⟨rfl,⟨nd,rfl⟩⟩;refine ⟨_,rfl,?_⟩)|(go_at_call 49;(with_reducible refine (spec_l1Norm.calls k a0_3 true _ A8.out).mono ?_);rintro e w15 ⟨rfl,hb⟩;have n0_:=Aside0.mk (blk_below (g:=gb127) (o:=.cells #[.string a0_0, .slice A0_1 l0_1.length c0_1, .bool false, .string a0_3] 24 (0,0)) (by (with_reducible repeat (first|refine blk_drewN ?_ _|refine blk_drew ?_|refine blk_alloc ?_ _));exact BK127.out) hb);have n1_:=Aside0.mk (below_step (by repeat (first|(with_reducible first|exact HB.out|apply below_alloc|apply pw_below_drewN|apply below_drew1|refine below_set ?_ GE127.out)|exact HB.out)) hb);clear BK127;clear HB;have BK127:=n0_;have HB:=n1_;clear n0_ n1_;(try clear hb);(try clear hb2);(try clear hk);(try clear hi);have hcz16_0:w15.cell? ⟨gb127,0,none⟩ = some (.string a0_0):=(blk_cell BK127.out 0).trans rfl;have hcz16_1:w15.cell? ⟨gb127,1,none⟩ = some (.slice A0_1 l0_1.length c0_1):=(blk_cell BK127.out 1).trans rfl;have hcz16_2:w15.cell? ⟨gb127,2,none⟩ = some (.bool false):=(blk_cell BK127.out 2).trans rfl;have hcz16_3:w15.cell? ⟨gb127,3,none⟩ = some (.string a0_3):=(blk_cell BK127.out 3).trans rfl;have hfz16_0:=blk_frozen BK127.out 0;have hfz16_1:=blk_frozen BK127.out 1;have hfz16_2:=blk_frozen BK127.out 2;have hfz16_3:=blk_frozen BK127.out 3))
      go_meet
      case rel=>exact ⟨_,((a0_3.toList != ([]:List UInt8))),(by first|rfl|(simp;done)|(simp only [i64_w,i32_w];done)|(simp only [i64_w,i32_w];rfl)|(simp [*];done)|(simp [emp_bne,emp_beq];done)),H',⟨by first|omega|exact Nat.le_refl _⟩,⟨by (with_reducible repeat (first|refine blk_drewN ?_ _|refine blk_drew ?_|refine blk_alloc ?_ _));exact BK127.out⟩,⟨by repeat (first|(with_reducible first|exact HB.out|apply below_alloc|apply pw_below_drewN|apply below_drew1|refine below_set ?_ GE127.out)|exact HB.out)⟩⟩
    ·replace c9:=Bool.eq_false_iff.mpr c9
     subst c9
     have H1:(spec_AddrOk.j0 k true a0_0 l0_1 a0_2 a0_3) = some r:=by rw [if_neg (show ¬ (false = true) by decide)] at H;exact H
     clear H
     have H:=H1
     clear H1
     have H':=Aside0.mk H
     clear H
     have hcz17_0:w3.cell? ⟨gb127,0,none⟩ = some (.string a0_0):=(blk_cell BK127.out 0).trans rfl
     have hcz17_1:w3.cell? ⟨gb127,1,none⟩ = some (.slice A0_1 l0_1.length c0_1):=(blk_cell BK127.out 1).trans rfl
     have hcz17_2:w3.cell? ⟨gb127,2,none⟩ = some (.bool a0_2):=(blk_cell BK127.out 2).trans rfl
     have hcz17_3:w3.cell? ⟨gb127,3,none⟩ = some (.string a0_3):=(blk_cell BK127.out 3).trans rfl
     have hfz17_0:=blk_frozen BK127.out 0
     have hfz17_1:=blk_frozen BK127.out 1
     have hfz17_2:=blk_frozen BK127.out 2
     have hfz17_3:=blk_frozen BK127.out 3
     go_wp2_with (first|((with_reducible refine gate_callee (f:=48) rfl ?_);refine goesL_ (some 6) rfl rfl Tryd.func48 (by kernel_rfl) rfl #[.string a0_0] rfl (by (try simp only [List.map_toArray,List.map_cons,List.map_nil]);first|done|rfl|(simp only [List.length_drop,List.length_take];rfl)) ?_;(with_reducible refine (spec_l1House.calls k a0_0 true _ A4.out).mono ?_);rintro e w' ⟨rfl,⟨nd,rfl⟩⟩;refine ⟨_,rfl,?_⟩)|(go_at_call 49;(with_reducible refine (spec_l1Norm.calls k a0_3 false _ A8.out).mono ?_);rintro e w18 ⟨rfl,hb⟩;have n0_:=Aside0.mk (blk_below (g:=gb127) (o:=.cells #[.string a0_0, .slice A0_1 l0_1.length c0_1, .bool a0_2, .string a0_3] 24 (0,0)) (by (with_reducible repeat (first|refine blk_drewN ?_ _|refine blk_drew ?_|refine blk_alloc ?_ _));exact BK127.out) hb);have n1_:=Aside0.mk (below_step (by repeat (first|(with_reducible first|exact HB.out|apply below_alloc|apply pw_below_drewN|apply below_drew1|refine below_set ?_ GE127.out)|exact HB.out)) hb);clear BK127;clear HB;have BK127:=n0_;have HB:=n1_;clear n0_ n1_;(try clear hb);(try clear hb2);(try clear hk);(try clear hi)))
     go_meet
     case rel=>exact ⟨_,(true),(by first|rfl|(simp;done)|(simp only [i64_w,i32_w];done)|(simp only [i64_w,i32_w];rfl)|(simp [*];done)|(simp [emp_bne,emp_beq];done)),H',⟨by first|omega|exact Nat.le_refl _⟩,⟨by (with_reducible repeat (first|refine blk_drewN ?_ _|refine blk_drew ?_|refine blk_alloc ?_ _));exact BK127.out⟩,⟨by repeat (first|(with_reducible first|exact HB.out|apply below_alloc|apply pw_below_drewN|apply below_drew1|refine below_set ?_ GE127.out)|exact HB.out)⟩⟩
  ·replace c5:=Bool.eq_false_iff.mpr c5
   subst c5
   have H1:(spec_AddrOk.j0 k true a0_0 l0_1 a0_2 a0_3) = some r:=by rw [if_neg (show ¬ (false = true) by decide)] at H;exact H
   clear H
   have H:=H1
   clear H1
   have H':=Aside0.mk H
   clear H
   have hcz19_0:w3.cell? ⟨gb127,0,none⟩ = some (.string a0_0):=(blk_cell BK127.out 0).trans rfl
   have hcz19_1:w3.cell? ⟨gb127,1,none⟩ = some (.slice A0_1 l0_1.length c0_1):=(blk_cell BK127.out 1).trans rfl
   have hcz19_2:w3.cell? ⟨gb127,2,none⟩ = some (.bool a0_2):=(blk_cell BK127.out 2).trans rfl
   have hcz19_3:w3.cell? ⟨gb127,3,none⟩ = some (.string a0_3):=(blk_cell BK127.out 3).trans rfl
   have hfz19_0:=blk_frozen BK127.out 0
   have hfz19_1:=blk_frozen BK127.out 1
   have hfz19_2:=blk_frozen BK127.out 2
   have hfz19_3:=blk_frozen BK127.out 3
   go_wp2_with (first|((with_reducible refine gate_callee (f:=48) rfl ?_);refine goesL_ (some 6) rfl rfl Tryd.func48 (by kernel_rfl) rfl #[.string a0_0] rfl (by (try simp only [List.map_toArray,List.map_cons,List.map_nil]);first|done|rfl|(simp only [List.length_drop,List.length_take];rfl)) ?_;(with_reducible refine (spec_l1House.calls k a0_0 false _ A4.out).mono ?_);rintro e w' ⟨rfl,⟨nd,rfl⟩⟩;refine ⟨_,rfl,?_⟩))
   go_meet
   case rel=>exact ⟨_,(true),(by first|rfl|(simp;done)|(simp only [i64_w,i32_w];done)|(simp only [i64_w,i32_w];rfl)|(simp [*];done)|(simp [emp_bne,emp_beq];done)),H',⟨by first|omega|exact Nat.le_refl _⟩,⟨by (with_reducible repeat (first|refine blk_drewN ?_ _|refine blk_drew ?_|refine blk_alloc ?_ _));exact BK127.out⟩,⟨by repeat (first|(with_reducible first|exact HB.out|apply below_alloc|apply pw_below_drewN|apply below_drew1|refine below_set ?_ GE127.out)|exact HB.out)⟩⟩
 case rest =>
  clear HC2
  try clear c1
  try clear c2
  try clear p2
  try clear c4
  try clear c5
  try clear c6
  try clear c6b0
  try clear c6b1
  try clear c9
  try clear c10
  try clear hcz11_0
  try clear hcz11_1
  try clear hcz11_2
  try clear hcz11_3
  try clear hcz13_0
  try clear hcz13_1
  try clear hcz13_2
  try clear hcz13_3
  try clear hcz14_0
  try clear hcz14_1
  try clear hcz14_2
  try clear hcz14_3
  try clear hcz16_0
  try clear hcz16_1
  try clear hcz16_2
  try clear hcz16_3
  try clear hcz17_0
  try clear hcz17_1
  try clear hcz17_2
  try clear hcz17_3
  try clear hcz19_0
  try clear hcz19_1
  try clear hcz19_2
  try clear hcz19_3
  try clear hcz7_0
  try clear hcz7_1
  try clear hcz7_2
  try clear hcz7_3
  try clear hfz11_0
  try clear hfz11_1
  try clear hfz11_2
  try clear hfz11_3
  try clear hfz13_0
  try clear hfz13_1
  try clear hfz13_2
  try clear hfz13_3
  try clear hfz14_0
  try clear hfz14_1
  try clear hfz14_2
  try clear hfz14_3
  try clear hfz16_0
  try clear hfz16_1
  try clear hfz16_2
  try clear hfz16_3
  try clear hfz17_0
  try clear hfz17_1
  try clear hfz17_2
  try clear hfz17_3
  try clear hfz19_0
  try clear hfz19_1
  try clear hfz19_2
  try clear hfz19_3
  try clear hfz7_0
  try clear hfz7_1
  try clear hfz7_2
  try clear hfz7_3
  obtain ⟨kq,x29_1,rfl,HA,HJ1,BK127,HB⟩:=hcut
  cases kq with
  | zero=>exact absurd HA.out (by simp [spec_AddrOk.j0])
  | succ kj1 =>
   have H:=HA.out
   clear HA
   simp only [spec_AddrOk.j0] at H
   by_cases c20:x29_1 = true
   ·subst c20
    have H1:(some false) = some r:=by rw [if_pos rfl] at H;exact H
    clear H
    have H:=H1
    clear H1
    obtain rfl:=Option.some.inj H
    go_wp2
    go_ret
    exact ⟨by first|rfl|(simp <;> rfl)|(simp [*] <;> rfl),by repeat (first|(with_reducible first|exact HB.out|apply below_alloc|apply pw_below_drewN|apply below_drew1|refine below_set ?_ GE127.out)|exact HB.out)⟩
   ·replace c20:=Bool.eq_false_iff.mpr c20
    subst c20
    have H1:(spec_AddrOk.l0 kj1 0 a0_0 l0_1 a0_2 a0_3) = some r:=by rw [if_neg (show ¬ (false = true) by decide)] at H;exact H
    clear H
    have H:=H1
    clear H1
    have H':=Aside0.mk H
    clear H
    go_wp2
    go_loopg [3] kj1 (fun kq v3 w'=>∃ (x3_2:Int),v3 = .int .i64 x3_2 ∧ Aside0 (spec_AddrOk.l0 kq x3_2 a0_0 l0_1 a0_2 a0_3 = some r) ∧ Aside0 (kq ≤ kj1) ∧ Aside0 (w'.heap[gb127]? = some (.cells #[.string a0_0,(.slice A0_1 l0_1.length c0_1), .bool a0_2, .string a0_3] 24 (0,0))) ∧ Aside0 (Below w.heap.size w w'))
    case atStart=>exact ⟨(0),(by first|rfl|(simp;done)|(simp only [i64_w,i32_w];done)|(simp only [i64_w,i32_w];rfl)|(simp [*];done)|(simp [emp_bne,emp_beq];done)),H',⟨Nat.le_refl _⟩,⟨by (with_reducible repeat (first|refine blk_drewN ?_ _|refine blk_drew ?_|refine blk_alloc ?_ _));exact BK127.out⟩,⟨by repeat (first|(with_reducible first|exact HB.out|apply below_alloc|apply pw_below_drewN|apply below_drew1|refine below_set ?_ GE127.out)|exact HB.out)⟩⟩
    case round =>
     clear H'
     try clear c1
     try clear c2
     try clear p2
     try clear c4
     try clear c5
     try clear c6
     try clear c6b0
     try clear c6b1
     try clear c9
     try clear c10
     try clear c20
     try clear hcz11_0
     try clear hcz11_1
     try clear hcz11_2
     try clear hcz11_3
     try clear hcz13_0
     try clear hcz13_1
     try clear hcz13_2
     try clear hcz13_3
     try clear hcz14_0
     try clear hcz14_1
     try clear hcz14_2
     try clear hcz14_3
     try clear hcz16_0
     try clear hcz16_1
     try clear hcz16_2
     try clear hcz16_3
     try clear hcz17_0
     try clear hcz17_1
     try clear hcz17_2
     try clear hcz17_3
     try clear hcz19_0
     try clear hcz19_1
     try clear hcz19_2
     try clear hcz19_3
     try clear hcz7_0
     try clear hcz7_1
     try clear hcz7_2
     try clear hcz7_3
     try clear hfz11_0
     try clear hfz11_1
     try clear hfz11_2
     try clear hfz11_3
     try clear hfz13_0
     try clear hfz13_1
     try clear hfz13_2
     try clear hfz13_3
     try clear hfz14_0
     try clear hfz14_1
     try clear hfz14_2
     try clear hfz14_3
     try clear hfz16_0
     try clear hfz16_1
     try clear hfz16_2
     try clear hfz16_3
     try clear hfz17_0
     try clear hfz17_1
     try clear hfz17_2
     try clear hfz17_3
     try clear hfz19_0
     try clear hfz19_1
     try clear hfz19_2
     try clear hfz19_3
     try clear hfz7_0
     try clear hfz7_1
     try clear hfz7_2
     try clear hfz7_3
     try clear p2
     obtain ⟨x3_2,rfl,HA,HK2,BK127,HB⟩:=hrel
     cases gk with
     | zero=>exact absurd HA.out (by simp [spec_AddrOk.l0])
     | succ k2 =>
      have H:=HA.out
      clear HA
      simp only [spec_AddrOk.l0] at H
      by_cases c21:x3_2 < (l0_1.length:Int)
      ·rw [if_pos c21] at H
       have c21b0:decide (x3_2 < (l0_1.length:Int)) = true:=decide_eq_true c21
       clear c21
       by_cases c22:0 ≤ x3_2
       ·rw [if_pos c22] at H
        have c22b0:decide (0 ≤ x3_2) = true:=decide_eq_true c22
        clear c22
        replace H:=Option.bind_eq_some_iff.mp H
        obtain ⟨t131,A230,H⟩:=H
        replace H:(if t131 = true then (if (rdOf ByteArray.empty l0_1 x3_2).toList = ([]:List UInt8) then (some false) else (if (rdOf ByteArray.empty l0_1 x3_2).toList = ([46]:List UInt8) then (some false) else (if (rdOf ByteArray.empty l0_1 x3_2).toList = ([46,46]:List UInt8) then (some false) else (spec_AddrOk.l0 k2 (wrap64 (x3_2 + 1)) a0_0 l0_1 a0_2 a0_3)))) else (some false)) = some r:=H
        have A23:=Aside0.mk A230
        clear A230
        by_cases c24:t131 = true
        ·subst c24
         have H1:(if (rdOf ByteArray.empty l0_1 x3_2).toList = ([]:List UInt8) then (some false) else (if (rdOf ByteArray.empty l0_1 x3_2).toList = ([46]:List UInt8) then (some false) else (if (rdOf ByteArray.empty l0_1 x3_2).toList = ([46,46]:List UInt8) then (some false) else (spec_AddrOk.l0 k2 (wrap64 (x3_2 + 1)) a0_0 l0_1 a0_2 a0_3)))) = some r:=by rw [if_pos rfl] at H;exact H
         clear H
         have H:=H1
         clear H1
         by_cases c25:(rdOf ByteArray.empty l0_1 x3_2).toList = ([]:List UInt8)
         ·rw [if_pos c25] at H
          (try (have c25b0:(rdOf ByteArray.empty l0_1 x3_2).toList.isEmpty = true:=by simpa using c25))
          have c25b1:((rdOf ByteArray.empty l0_1 x3_2).toList == ([]:List UInt8)) = true:=beq_iff_eq.mpr c25
          have c25b2:((rdOf ByteArray.empty l0_1 x3_2).toList != ([]:List UInt8)) = false:=bne_eq_false_iff_eq.mpr c25
          clear c25
          obtain rfl:=Option.some.inj H
          have hcz26_0:wr.cell? ⟨gb127,0,none⟩ = some (.string a0_0):=(blk_cell BK127.out 0).trans rfl
          have hcz26_1:wr.cell? ⟨gb127,1,none⟩ = some (.slice A0_1 l0_1.length c0_1):=(blk_cell BK127.out 1).trans rfl
          have hcz26_2:wr.cell? ⟨gb127,2,none⟩ = some (.bool a0_2):=(blk_cell BK127.out 2).trans rfl
          have hcz26_3:wr.cell? ⟨gb127,3,none⟩ = some (.string a0_3):=(blk_cell BK127.out 3).trans rfl
          have hfz26_0:=blk_frozen BK127.out 0
          have hfz26_1:=blk_frozen BK127.out 1
          have hfz26_2:=blk_frozen BK127.out 2
          have hfz26_3:=blk_frozen BK127.out 3
          have p130:0 ≤ (x3_2:Int):=of_decide_eq_true (by first|(with_reducible assumption)|assumption)
          have q130:x3_2 < (l0_1.length:Int):=of_decide_eq_true (by first|(with_reducible assumption)|assumption)
          obtain ⟨ad130,e130,hx130_0⟩:=Kd.at_string HR0_1.out x3_2 p130 q130
          cases e130
          replace hx130_0:=(HB.out.cell (World.block_lt_of_cell? w _ hx130_0)).trans hx130_0
          replace p130:=eq_true p130
          replace q130:=eq_true q130
          go_wp2_with (first|((with_reducible refine gate_callee (f:=49) rfl ?_);refine goesL_ (some 42) rfl rfl Tryd.func49 (by kernel_rfl) rfl #[.string (rdOf ByteArray.empty l0_1 x3_2)] rfl (by (try simp only [List.map_toArray,List.map_cons,List.map_nil]);first|done|rfl|(simp only [List.length_drop,List.length_take];rfl)) ?_;(with_reducible refine (spec_l1Norm.calls k2 (rdOf ByteArray.empty l0_1 x3_2) true _ A23.out).mono ?_);rintro e w27 ⟨rfl,hb⟩;refine ⟨_,rfl,?_⟩;have n0_:=Aside0.mk (blk_below (g:=gb127) (o:=.cells #[.string a0_0, .slice (some ad130) l0_1.length c0_1, .bool a0_2, .string a0_3] 24 (0,0)) (by (with_reducible repeat (first|refine blk_drewN ?_ _|refine blk_drew ?_|refine blk_alloc ?_ _));exact BK127.out) hb);have n1_:=Aside0.mk (below_step (by repeat (first|(with_reducible first|exact HB.out|apply below_alloc|apply pw_below_drewN|apply below_drew1|refine below_set ?_ GE127.out)|exact HB.out)) hb);clear BK127;clear HB;have BK127:=n0_;have HB:=n1_;clear n0_ n1_;(try clear hb);(try clear hb2);(try clear hk);(try clear hi);have hcz28_0:w27.cell? ⟨gb127,0,none⟩ = some (.string a0_0):=(blk_cell BK127.out 0).trans rfl;have hcz28_1:w27.cell? ⟨gb127,1,none⟩ = some (.slice (some ad130) l0_1.length c0_1):=(blk_cell BK127.out 1).trans rfl;have hcz28_2:w27.cell? ⟨gb127,2,none⟩ = some (.bool a0_2):=(blk_cell BK127.out 2).trans rfl;have hcz28_3:w27.cell? ⟨gb127,3,none⟩ = some (.string a0_3):=(blk_cell BK127.out 3).trans rfl;have hfz28_0:=blk_frozen BK127.out 0;have hfz28_1:=blk_frozen BK127.out 1;have hfz28_2:=blk_frozen BK127.out 2;have hfz28_3:=blk_frozen BK127.out 3;have p132:0 ≤ (x3_2:Int):=of_decide_eq_true (by first|(with_reducible assumption)|assumption);have q132:x3_2 < (l0_1.length:Int):=of_decide_eq_true (by first|(with_reducible assumption)|assumption);obtain ⟨ad132,e132,hx132_0⟩:=Kd.at_string HR0_1.out x3_2 p132 q132;obtain rfl:ad130 = ad132:=(by injection e132);replace hx132_0:=(HB.out.cell (World.block_lt_of_cell? w _ hx132_0)).trans hx132_0;replace p132:=eq_true p132;replace q132:=eq_true q132))
          go_ret
          exact ⟨by first|rfl|(simp <;> rfl)|(simp [*] <;> rfl),by repeat (first|(with_reducible first|exact HB.out|apply below_alloc|apply pw_below_drewN|apply below_drew1|refine below_set ?_ GE127.out)|exact HB.out)⟩
         ·rw [if_neg c25] at H
          (try (have c25b0:(rdOf ByteArray.empty l0_1 x3_2).toList.isEmpty = false:=by simpa using c25))
          have c25b1:((rdOf ByteArray.empty l0_1 x3_2).toList == ([]:List UInt8)) = false:=beq_eq_false_iff_ne.mpr c25
          have c25b2:((rdOf ByteArray.empty l0_1 x3_2).toList != ([]:List UInt8)) = true:=bne_iff_ne.mpr c25
          by_cases c29:(rdOf ByteArray.empty l0_1 x3_2).toList = ([46]:List UInt8)
          ·rw [if_pos c29] at H
           have c29b0:((rdOf ByteArray.empty l0_1 x3_2).toList == ([46]:List UInt8)) = true:=beq_iff_eq.mpr c29
           have c29b1:((rdOf ByteArray.empty l0_1 x3_2).toList != ([46]:List UInt8)) = false:=bne_eq_false_iff_eq.mpr c29
           clear c29
           obtain rfl:=Option.some.inj H
           have hcz30_0:wr.cell? ⟨gb127,0,none⟩ = some (.string a0_0):=(blk_cell BK127.out 0).trans rfl
           have hcz30_1:wr.cell? ⟨gb127,1,none⟩ = some (.slice A0_1 l0_1.length c0_1):=(blk_cell BK127.out 1).trans rfl
           have hcz30_2:wr.cell? ⟨gb127,2,none⟩ = some (.bool a0_2):=(blk_cell BK127.out 2).trans rfl
           have hcz30_3:wr.cell? ⟨gb127,3,none⟩ = some (.string a0_3):=(blk_cell BK127.out 3).trans rfl
           have hfz30_0:=blk_frozen BK127.out 0
           have hfz30_1:=blk_frozen BK127.out 1
           have hfz30_2:=blk_frozen BK127.out 2
           have hfz30_3:=blk_frozen BK127.out 3
           have p130:0 ≤ (x3_2:Int):=of_decide_eq_true (by first|(with_reducible assumption)|assumption)
           have q130:x3_2 < (l0_1.length:Int):=of_decide_eq_true (by first|(with_reducible assumption)|assumption)
           obtain ⟨ad130,e130,hx130_0⟩:=Kd.at_string HR0_1.out x3_2 p130 q130
           cases e130
           replace hx130_0:=(HB.out.cell (World.block_lt_of_cell? w _ hx130_0)).trans hx130_0
           replace p130:=eq_true p130
           replace q130:=eq_true q130
           go_wp2_with (first|((with_reducible refine gate_callee (f:=49) rfl ?_);refine goesL_ (some 42) rfl rfl Tryd.func49 (by kernel_rfl) rfl #[.string (rdOf ByteArray.empty l0_1 x3_2)] rfl (by (try simp only [List.map_toArray,List.map_cons,List.map_nil]);first|done|rfl|(simp only [List.length_drop,List.length_take];rfl)) ?_;(with_reducible refine (spec_l1Norm.calls k2 (rdOf ByteArray.empty l0_1 x3_2) true _ A23.out).mono ?_);rintro e w31 ⟨rfl,hb⟩;refine ⟨_,rfl,?_⟩;have n0_:=Aside0.mk (blk_below (g:=gb127) (o:=.cells #[.string a0_0, .slice (some ad130) l0_1.length c0_1, .bool a0_2, .string a0_3] 24 (0,0)) (by (with_reducible repeat (first|refine blk_drewN ?_ _|refine blk_drew ?_|refine blk_alloc ?_ _));exact BK127.out) hb);have n1_:=Aside0.mk (below_step (by repeat (first|(with_reducible first|exact HB.out|apply below_alloc|apply pw_below_drewN|apply below_drew1|refine below_set ?_ GE127.out)|exact HB.out)) hb);clear BK127;clear HB;have BK127:=n0_;have HB:=n1_;clear n0_ n1_;(try clear hb);(try clear hb2);(try clear hk);(try clear hi);have hcz32_0:w31.cell? ⟨gb127,0,none⟩ = some (.string a0_0):=(blk_cell BK127.out 0).trans rfl;have hcz32_1:w31.cell? ⟨gb127,1,none⟩ = some (.slice (some ad130) l0_1.length c0_1):=(blk_cell BK127.out 1).trans rfl;have hcz32_2:w31.cell? ⟨gb127,2,none⟩ = some (.bool a0_2):=(blk_cell BK127.out 2).trans rfl;have hcz32_3:w31.cell? ⟨gb127,3,none⟩ = some (.string a0_3):=(blk_cell BK127.out 3).trans rfl;have hfz32_0:=blk_frozen BK127.out 0;have hfz32_1:=blk_frozen BK127.out 1;have hfz32_2:=blk_frozen BK127.out 2;have hfz32_3:=blk_frozen BK127.out 3;have p132:0 ≤ (x3_2:Int):=of_decide_eq_true (by first|(with_reducible assumption)|assumption);have q132:x3_2 < (l0_1.length:Int):=of_decide_eq_true (by first|(with_reducible assumption)|assumption);obtain ⟨ad132,e132,hx132_0⟩:=Kd.at_string HR0_1.out x3_2 p132 q132;obtain rfl:ad130 = ad132:=(by injection e132);replace hx132_0:=(HB.out.cell (World.block_lt_of_cell? w _ hx132_0)).trans hx132_0;replace p132:=eq_true p132;replace q132:=eq_true q132;have p133:0 ≤ (x3_2:Int):=of_decide_eq_true (by first|(with_reducible assumption)|assumption);have q133:x3_2 < (l0_1.length:Int):=of_decide_eq_true (by first|(with_reducible assumption)|assumption);obtain ⟨ad133,e133,hx133_0⟩:=Kd.at_string HR0_1.out x3_2 p133 q133;obtain rfl:ad130 = ad133:=(by injection e133);replace hx133_0:=(HB.out.cell (World.block_lt_of_cell? w _ hx133_0)).trans hx133_0;replace p133:=eq_true p133;replace q133:=eq_true q133))
           go_ret
           exact ⟨by first|rfl|(simp <;> rfl)|(simp [*] <;> rfl),by repeat (first|(with_reducible first|exact HB.out|apply below_alloc|apply pw_below_drewN|apply below_drew1|refine below_set ?_ GE127.out)|exact HB.out)⟩
          ·rw [if_neg c29] at H
           have c29b0:((rdOf ByteArray.empty l0_1 x3_2).toList == ([46]:List UInt8)) = false:=beq_eq_false_iff_ne.mpr c29
           have c29b1:((rdOf ByteArray.empty l0_1 x3_2).toList != ([46]:List UInt8)) = true:=bne_iff_ne.mpr c29
           by_cases c33:(rdOf ByteArray.empty l0_1 x3_2).toList = ([46,46]:List UInt8)
           ·rw [if_pos c33] at H
            have c33b0:((rdOf ByteArray.empty l0_1 x3_2).toList == ([46,46]:List UInt8)) = true:=beq_iff_eq.mpr c33
            have c33b1:((rdOf ByteArray.empty l0_1 x3_2).toList != ([46,46]:List UInt8)) = false:=bne_eq_false_iff_eq.mpr c33
            clear c33
            obtain rfl:=Option.some.inj H
            have hcz34_0:wr.cell? ⟨gb127,0,none⟩ = some (.string a0_0):=(blk_cell BK127.out 0).trans rfl
            have hcz34_1:wr.cell? ⟨gb127,1,none⟩ = some (.slice A0_1 l0_1.length c0_1):=(blk_cell BK127.out 1).trans rfl
            have hcz34_2:wr.cell? ⟨gb127,2,none⟩ = some (.bool a0_2):=(blk_cell BK127.out 2).trans rfl
            have hcz34_3:wr.cell? ⟨gb127,3,none⟩ = some (.string a0_3):=(blk_cell BK127.out 3).trans rfl
            have hfz34_0:=blk_frozen BK127.out 0
            have hfz34_1:=blk_frozen BK127.out 1
            have hfz34_2:=blk_frozen BK127.out 2
            have hfz34_3:=blk_frozen BK127.out 3
            have p130:0 ≤ (x3_2:Int):=of_decide_eq_true (by first|(with_reducible assumption)|assumption)
            have q130:x3_2 < (l0_1.length:Int):=of_decide_eq_true (by first|(with_reducible assumption)|assumption)
            obtain ⟨ad130,e130,hx130_0⟩:=Kd.at_string HR0_1.out x3_2 p130 q130
            cases e130
            replace hx130_0:=(HB.out.cell (World.block_lt_of_cell? w _ hx130_0)).trans hx130_0
            replace p130:=eq_true p130
            replace q130:=eq_true q130
            go_wp2_with (first|((with_reducible refine gate_callee (f:=49) rfl ?_);refine goesL_ (some 42) rfl rfl Tryd.func49 (by kernel_rfl) rfl #[.string (rdOf ByteArray.empty l0_1 x3_2)] rfl (by (try simp only [List.map_toArray,List.map_cons,List.map_nil]);first|done|rfl|(simp only [List.length_drop,List.length_take];rfl)) ?_;(with_reducible refine (spec_l1Norm.calls k2 (rdOf ByteArray.empty l0_1 x3_2) true _ A23.out).mono ?_);rintro e w35 ⟨rfl,hb⟩;refine ⟨_,rfl,?_⟩;have n0_:=Aside0.mk (blk_below (g:=gb127) (o:=.cells #[.string a0_0, .slice (some ad130) l0_1.length c0_1, .bool a0_2, .string a0_3] 24 (0,0)) (by (with_reducible repeat (first|refine blk_drewN ?_ _|refine blk_drew ?_|refine blk_alloc ?_ _));exact BK127.out) hb);have n1_:=Aside0.mk (below_step (by repeat (first|(with_reducible first|exact HB.out|apply below_alloc|apply pw_below_drewN|apply below_drew1|refine below_set ?_ GE127.out)|exact HB.out)) hb);clear BK127;clear HB;have BK127:=n0_;have HB:=n1_;clear n0_ n1_;(try clear hb);(try clear hb2);(try clear hk);(try clear hi);have hcz36_0:w35.cell? ⟨gb127,0,none⟩ = some (.string a0_0):=(blk_cell BK127.out 0).trans rfl;have hcz36_1:w35.cell? ⟨gb127,1,none⟩ = some (.slice (some ad130) l0_1.length c0_1):=(blk_cell BK127.out 1).trans rfl;have hcz36_2:w35.cell? ⟨gb127,2,none⟩ = some (.bool a0_2):=(blk_cell BK127.out 2).trans rfl;have hcz36_3:w35.cell? ⟨gb127,3,none⟩ = some (.string a0_3):=(blk_cell BK127.out 3).trans rfl;have hfz36_0:=blk_frozen BK127.out 0;have hfz36_1:=blk_frozen BK127.out 1;have hfz36_2:=blk_frozen BK127.out 2;have hfz36_3:=blk_frozen BK127.out 3;have p132:0 ≤ (x3_2:Int):=of_decide_eq_true (by first|(with_reducible assumption)|assumption);have q132:x3_2 < (l0_1.length:Int):=of_decide_eq_true (by first|(with_reducible assumption)|assumption);obtain ⟨ad132,e132,hx132_0⟩:=Kd.at_string HR0_1.out x3_2 p132 q132;obtain rfl:ad130 = ad132:=(by injection e132);replace hx132_0:=(HB.out.cell (World.block_lt_of_cell? w _ hx132_0)).trans hx132_0;replace p132:=eq_true p132;replace q132:=eq_true q132;have p133:0 ≤ (x3_2:Int):=of_decide_eq_true (by first|(with_reducible assumption)|assumption);have q133:x3_2 < (l0_1.length:Int):=of_decide_eq_true (by first|(with_reducible assumption)|assumption);obtain ⟨ad133,e133,hx133_0⟩:=Kd.at_string HR0_1.out x3_2 p133 q133;obtain rfl:ad130 = ad133:=(by injection e133);replace hx133_0:=(HB.out.cell (World.block_lt_of_cell? w _ hx133_0)).trans hx133_0;replace p133:=eq_true p133;replace q133:=eq_true q133;have p134:0 ≤ (x3_2:Int):=of_decide_eq_true (by first|(with_reducible assumption)|assumption);have q134:x3_2 < (l0_1.length:Int):=of_decide_eq_true (by first|(with_reducible assumption)|assumption);obtain ⟨ad134,e134,hx134_0⟩:=Kd.at_string HR0_1.out x3_2 p134 q134;obtain rfl:ad130 = ad134:=(by injection e134);replace hx134_0:=(HB.out.cell (World.block_lt_of_cell? w _ hx134_0)).trans hx134_0;replace p134:=eq_true p134;replace q134:=eq_true q134))
            go_ret
            exact ⟨by first|rfl|(simp <;> rfl)|(simp [*] <;> rfl),by repeat (first|(with_reducible first|exact HB.out|apply below_alloc|apply pw_below_drewN|apply below_drew1|refine below_set ?_ GE127.out)|exact HB.out)⟩
           ·rw [if_neg c33] at H
            have c33b0:((rdOf ByteArray.empty l0_1 x3_2).toList == ([46,46]:List UInt8)) = false:=beq_eq_false_iff_ne.mpr c33
            have c33b1:((rdOf ByteArray.empty l0_1 x3_2).toList != ([46,46]:List UInt8)) = true:=bne_iff_ne.mpr c33
            have H':=Aside0.mk H
            clear H
            have hcz37_0:wr.cell? ⟨gb127,0,none⟩ = some (.string a0_0):=(blk_cell BK127.out 0).trans rfl
            have hcz37_1:wr.cell? ⟨gb127,1,none⟩ = some (.slice A0_1 l0_1.length c0_1):=(blk_cell BK127.out 1).trans rfl
            have hcz37_2:wr.cell? ⟨gb127,2,none⟩ = some (.bool a0_2):=(blk_cell BK127.out 2).trans rfl
            have hcz37_3:wr.cell? ⟨gb127,3,none⟩ = some (.string a0_3):=(blk_cell BK127.out 3).trans rfl
            have hfz37_0:=blk_frozen BK127.out 0
            have hfz37_1:=blk_frozen BK127.out 1
            have hfz37_2:=blk_frozen BK127.out 2
            have hfz37_3:=blk_frozen BK127.out 3
            have p130:0 ≤ (x3_2:Int):=of_decide_eq_true (by first|(with_reducible assumption)|assumption)
            have q130:x3_2 < (l0_1.length:Int):=of_decide_eq_true (by first|(with_reducible assumption)|assumption)
            obtain ⟨ad130,e130,hx130_0⟩:=Kd.at_string HR0_1.out x3_2 p130 q130
            cases e130
            replace hx130_0:=(HB.out.cell (World.block_lt_of_cell? w _ hx130_0)).trans hx130_0
            replace p130:=eq_true p130
            replace q130:=eq_true q130
            go_wp2_with (first|((with_reducible refine gate_callee (f:=49) rfl ?_);refine goesL_ (some 42) rfl rfl Tryd.func49 (by kernel_rfl) rfl #[.string (rdOf ByteArray.empty l0_1 x3_2)] rfl (by (try simp only [List.map_toArray,List.map_cons,List.map_nil]);first|done|rfl|(simp only [List.length_drop,List.length_take];rfl)) ?_;(with_reducible refine (spec_l1Norm.calls k2 (rdOf ByteArray.empty l0_1 x3_2) true _ A23.out).mono ?_);rintro e w38 ⟨rfl,hb⟩;refine ⟨_,rfl,?_⟩;have n0_:=Aside0.mk (blk_below (g:=gb127) (o:=.cells #[.string a0_0, .slice (some ad130) l0_1.length c0_1, .bool a0_2, .string a0_3] 24 (0,0)) (by (with_reducible repeat (first|refine blk_drewN ?_ _|refine blk_drew ?_|refine blk_alloc ?_ _));exact BK127.out) hb);have n1_:=Aside0.mk (below_step (by repeat (first|(with_reducible first|exact HB.out|apply below_alloc|apply pw_below_drewN|apply below_drew1|refine below_set ?_ GE127.out)|exact HB.out)) hb);clear BK127;clear HB;have BK127:=n0_;have HB:=n1_;clear n0_ n1_;(try clear hb);(try clear hb2);(try clear hk);(try clear hi);have hcz39_0:w38.cell? ⟨gb127,0,none⟩ = some (.string a0_0):=(blk_cell BK127.out 0).trans rfl;have hcz39_1:w38.cell? ⟨gb127,1,none⟩ = some (.slice (some ad130) l0_1.length c0_1):=(blk_cell BK127.out 1).trans rfl;have hcz39_2:w38.cell? ⟨gb127,2,none⟩ = some (.bool a0_2):=(blk_cell BK127.out 2).trans rfl;have hcz39_3:w38.cell? ⟨gb127,3,none⟩ = some (.string a0_3):=(blk_cell BK127.out 3).trans rfl;have hfz39_0:=blk_frozen BK127.out 0;have hfz39_1:=blk_frozen BK127.out 1;have hfz39_2:=blk_frozen BK127.out 2;have hfz39_3:=blk_frozen BK127.out 3;have p132:0 ≤ (x3_2:Int):=of_decide_eq_true (by first|(with_reducible assumption)|assumption);have q132:x3_2 < (l0_1.length:Int):=of_decide_eq_true (by first|(with_reducible assumption)|assumption);obtain ⟨ad132,e132,hx132_0⟩:=Kd.at_string HR0_1.out x3_2 p132 q132;obtain rfl:ad130 = ad132:=(by injection e132);replace hx132_0:=(HB.out.cell (World.block_lt_of_cell? w _ hx132_0)).trans hx132_0;replace p132:=eq_true p132;replace q132:=eq_true q132;have p133:0 ≤ (x3_2:Int):=of_decide_eq_true (by first|(with_reducible assumption)|assumption);have q133:x3_2 < (l0_1.length:Int):=of_decide_eq_true (by first|(with_reducible assumption)|assumption);obtain ⟨ad133,e133,hx133_0⟩:=Kd.at_string HR0_1.out x3_2 p133 q133;obtain rfl:ad130 = ad133:=(by injection e133);replace hx133_0:=(HB.out.cell (World.block_lt_of_cell? w _ hx133_0)).trans hx133_0;replace p133:=eq_true p133;replace q133:=eq_true q133;have p134:0 ≤ (x3_2:Int):=of_decide_eq_true (by first|(with_reducible assumption)|assumption);have q134:x3_2 < (l0_1.length:Int):=of_decide_eq_true (by first|(with_reducible assumption)|assumption);obtain ⟨ad134,e134,hx134_0⟩:=Kd.at_string HR0_1.out x3_2 p134 q134;obtain rfl:ad130 = ad134:=(by injection e134);replace hx134_0:=(HB.out.cell (World.block_lt_of_cell? w _ hx134_0)).trans hx134_0;replace p134:=eq_true p134;replace q134:=eq_true q134))
            go_roundg k2
            case measure=>have:=HJ1.out;have:=HK2.out;omega
            case rel=>exact ⟨(wrap64 (x3_2 + 1)),(by first|rfl|(simp;done)|(simp only [i64_w,i32_w];done)|(simp only [i64_w,i32_w];rfl)|(simp [*];done)|(simp [emp_bne,emp_beq];done)),H',⟨by have:=HJ1.out;have:=HK2.out;omega⟩,⟨by (with_reducible repeat (first|refine blk_drewN ?_ _|refine blk_drew ?_|refine blk_alloc ?_ _));exact BK127.out⟩,⟨by repeat (first|(with_reducible first|exact HB.out|apply below_alloc|apply pw_below_drewN|apply below_drew1|refine below_set ?_ GE127.out)|exact HB.out)⟩⟩
        ·replace c24:=Bool.eq_false_iff.mpr c24
         subst c24
         have H1:(some false) = some r:=by rw [if_neg (show ¬ (false = true) by decide)] at H;exact H
         clear H
         have H:=H1
         clear H1
         obtain rfl:=Option.some.inj H
         have hcz40_0:wr.cell? ⟨gb127,0,none⟩ = some (.string a0_0):=(blk_cell BK127.out 0).trans rfl
         have hcz40_1:wr.cell? ⟨gb127,1,none⟩ = some (.slice A0_1 l0_1.length c0_1):=(blk_cell BK127.out 1).trans rfl
         have hcz40_2:wr.cell? ⟨gb127,2,none⟩ = some (.bool a0_2):=(blk_cell BK127.out 2).trans rfl
         have hcz40_3:wr.cell? ⟨gb127,3,none⟩ = some (.string a0_3):=(blk_cell BK127.out 3).trans rfl
         have hfz40_0:=blk_frozen BK127.out 0
         have hfz40_1:=blk_frozen BK127.out 1
         have hfz40_2:=blk_frozen BK127.out 2
         have hfz40_3:=blk_frozen BK127.out 3
         have p130:0 ≤ (x3_2:Int):=of_decide_eq_true (by first|(with_reducible assumption)|assumption)
         have q130:x3_2 < (l0_1.length:Int):=of_decide_eq_true (by first|(with_reducible assumption)|assumption)
         obtain ⟨ad130,e130,hx130_0⟩:=Kd.at_string HR0_1.out x3_2 p130 q130
         cases e130
         replace hx130_0:=(HB.out.cell (World.block_lt_of_cell? w _ hx130_0)).trans hx130_0
         replace p130:=eq_true p130
         replace q130:=eq_true q130
         go_wp2_with (first|((with_reducible refine gate_callee (f:=49) rfl ?_);refine goesL_ (some 42) rfl rfl Tryd.func49 (by kernel_rfl) rfl #[.string (rdOf ByteArray.empty l0_1 x3_2)] rfl (by (try simp only [List.map_toArray,List.map_cons,List.map_nil]);first|done|rfl|(simp only [List.length_drop,List.length_take];rfl)) ?_;(with_reducible refine (spec_l1Norm.calls k2 (rdOf ByteArray.empty l0_1 x3_2) false _ A23.out).mono ?_);rintro e w41 ⟨rfl,hb⟩;refine ⟨_,rfl,?_⟩;have n0_:=Aside0.mk (blk_below (g:=gb127) (o:=.cells #[.string a0_0, .slice (some ad130) l0_1.length c0_1, .bool a0_2, .string a0_3] 24 (0,0)) (by (with_reducible repeat (first|refine blk_drewN ?_ _|refine blk_drew ?_|refine blk_alloc ?_ _));exact BK127.out) hb);have n1_:=Aside0.mk (below_step (by repeat (first|(with_reducible first|exact HB.out|apply below_alloc|apply pw_below_drewN|apply below_drew1|refine below_set ?_ GE127.out)|exact HB.out)) hb);clear BK127;clear HB;have BK127:=n0_;have HB:=n1_;clear n0_ n1_;(try clear hb);(try clear hb2);(try clear hk);(try clear hi)))
         go_ret
         exact ⟨by first|rfl|(simp <;> rfl)|(simp [*] <;> rfl),by repeat (first|(with_reducible first|exact HB.out|apply below_alloc|apply pw_below_drewN|apply below_drew1|refine below_set ?_ GE127.out)|exact HB.out)⟩
       ·rw [if_neg c22] at H
        exact absurd H (by simp)
      ·rw [if_neg c21] at H
       have c21b0:decide (x3_2 < (l0_1.length:Int)) = false:=decide_eq_false c21
       clear c21
       replace H:=Option.bind_eq_some_iff.mp H
       obtain ⟨t135,A420,H⟩:=H
       replace H:(some (decide ((t135.size:Int) ≤ 60))) = some r:=H
       have A42:=Aside0.mk A420
       clear A420
       obtain rfl:=Option.some.inj H
       have hcz43_0:wr.cell? ⟨gb127,0,none⟩ = some (.string a0_0):=(blk_cell BK127.out 0).trans rfl
       have hcz43_1:wr.cell? ⟨gb127,1,none⟩ = some (.slice A0_1 l0_1.length c0_1):=(blk_cell BK127.out 1).trans rfl
       have hcz43_2:wr.cell? ⟨gb127,2,none⟩ = some (.bool a0_2):=(blk_cell BK127.out 2).trans rfl
       have hcz43_3:wr.cell? ⟨gb127,3,none⟩ = some (.string a0_3):=(blk_cell BK127.out 3).trans rfl
       have hfz43_0:=blk_frozen BK127.out 0
       have hfz43_1:=blk_frozen BK127.out 1
       have hfz43_2:=blk_frozen BK127.out 2
       have hfz43_3:=blk_frozen BK127.out 3
       go_wp2_with (first|((with_reducible refine gate_callee (f:=30) rfl ?_);refine goesL_ (some 69) rfl rfl Tryd.func30 (by kernel_rfl) rfl #[.agg #[.string a0_0, .slice A0_1 l0_1.length c0_1, .bool a0_2, .string a0_3]] rfl (by (try simp only [List.map_toArray,List.map_cons,List.map_nil]);first|done|rfl|(simp only [List.length_drop,List.length_take];rfl)) ?_;(with_reducible refine (spec_l1Text.calls k2 a0_0 _ _ l0_1 a0_2 a0_3 t135 _ ?side1 ?side2 A42.out).mono ?_);(case side1=>repeat (first|exact (Kd.C_below HR0_1.out HB.out)|(with_reducible refine Kd.C_alloc ?_ _)|(with_reducible refine Kd.C_drewN ?_ _)|(with_reducible refine Kd.C_drew ?_)));(case side2=>exact HC0_1.out);rintro e w44 ⟨rfl,hb⟩;refine ⟨_,rfl,?_⟩;have n0_:=Aside0.mk (blk_below (g:=gb127) (o:=.cells #[.string a0_0, .slice A0_1 l0_1.length c0_1, .bool a0_2, .string a0_3] 24 (0,0)) (by (with_reducible repeat (first|refine blk_drewN ?_ _|refine blk_drew ?_|refine blk_alloc ?_ _));exact BK127.out) hb);have n1_:=Aside0.mk (below_step (by repeat (first|(with_reducible first|exact HB.out|apply below_alloc|apply pw_below_drewN|apply below_drew1|refine below_set ?_ GE127.out)|exact HB.out)) hb);clear BK127;clear HB;have BK127:=n0_;have HB:=n1_;clear n0_ n1_;(try clear hb);(try clear hb2);(try clear hk);(try clear hi)))
       go_ret
       exact ⟨by first|rfl|(simp <;> rfl)|(simp [*] <;> rfl),by repeat (first|(with_reducible first|exact HB.out|apply below_alloc|apply pw_below_drewN|apply below_drew1|refine below_set ?_ GE127.out)|exact HB.out)⟩

/-! ### spec_AddrText: function 15 -/
def spec_AddrText.f (k:Nat) (a0_0:ByteArray) (l0_1:List ByteArray) (a0_2:Bool) (a0_3:ByteArray):Option (ByteArray):=(spec_AddrOk.f k a0_0 l0_1 a0_2 a0_3).bind fun t137=>(if t137 = true then ((spec_l1Text.f k a0_0 l0_1 a0_2 a0_3).bind fun t138=>(some t138)) else (some (⟨#[]⟩:ByteArray)))
theorem spec_AddrText.mono:∀ a0 a1 a2 a3 k,LeO (spec_AddrText.f k a0 a1 a2 a3) (spec_AddrText.f (k + 1) a0 a1 a2 a3):=by
 intro a0 a1 a2 a3 k
 unfold spec_AddrText.f
 repeat' first
   | (with_reducible exact spec_AddrOk.mono _ _ _ _ _)
   | (with_reducible exact spec_l1Text.mono _ _ _ _ _)
   | (with_reducible exact LeO.refl _)
   | (with_reducible exact LeO.none _)
   | (with_reducible refine LeO.ite ?_ ?_)
   | (with_reducible refine LeO.bind ?_ (fun _=>?_))
   | exact spec_AddrOk.mono _ _ _ _ _
   | exact spec_l1Text.mono _ _ _ _ _
   | exact LeO.none _
   | refine LeO.ite ?_ ?_
   | refine LeO.bind ?_ (fun _=>?_)
theorem spec_AddrText.calls (k:Nat) (a0_0:ByteArray) (A0_1:Option Addr) (c0_1:Nat) (l0_1:List ByteArray) (a0_2:Bool) (a0_3:ByteArray) (r:ByteArray) (w:World) (hr0_1:Kd.C Kd.string w A0_1 l0_1.length l0_1) (hc0_1:l0_1.length ≤ c0_1) (h:spec_AddrText.f k a0_0 l0_1 a0_2 a0_3 = some r) :
  Calls Tryd.prog 15 #[.agg #[.string a0_0, .slice A0_1 l0_1.length c0_1, .bool a0_2, .string a0_3]] w fun e w'=>e = .returned (.string r) ∧ Below w.heap.size w w':=by
 have hu24:=Tryd.underlying24
 have HR0_1:=Aside0.mk hr0_1
 have HC0_1:=Aside0.mk hc0_1
 clear hr0_1 hc0_1
 have HB:=Aside0.mk (Below.refl w.heap.size w)
 have H:((spec_AddrOk.f k a0_0 l0_1 a0_2 a0_3).bind fun t137=>(if t137 = true then ((spec_l1Text.f k a0_0 l0_1 a0_2 a0_3).bind fun t138=>(some t138)) else (some (⟨#[]⟩:ByteArray)))) = some r:=h
 clear h
 replace H:=Option.bind_eq_some_iff.mp H
 obtain ⟨t137,A20,H⟩:=H
 replace H:(if t137 = true then ((spec_l1Text.f k a0_0 l0_1 a0_2 a0_3).bind fun t138=>(some t138)) else (some (⟨#[]⟩:ByteArray))) = some r:=H
 have A2:=Aside0.mk A20
 clear A20
 by_cases c3:t137 = true
 ·subst c3
  have H1:((spec_l1Text.f k a0_0 l0_1 a0_2 a0_3).bind fun t138=>(some t138)) = some r:=by rw [if_pos rfl] at H;exact H
  clear H
  have H:=H1
  clear H1
  replace H:=Option.bind_eq_some_iff.mp H
  obtain ⟨t138,A40,H⟩:=H
  replace H:(some t138) = some r:=H
  have A4:=Aside0.mk A40
  clear A40
  obtain rfl:=Option.some.inj H
  go_enter Tryd.func15,Tryd.ntmps15
  go_wp2_with (first|((with_reducible refine gate_dst (N:=1) rfl ?_);refine box_event ?hg (N:=1) ?hd (cs:=#[.string a0_0, .slice A0_1 l0_1.length c0_1, .bool a0_2, .string a0_3]) (t:=24) ?hr ?_;(case hd=>rfl);(case hg=>rfl);(case hr=>first|(go_simp;done)|(go_simp;rfl));intro gb136 hg w5 hbox hb;have n0_:=Aside0.mk (below_step (by repeat (first|(with_reducible first|exact HB.out|apply below_alloc|apply pw_below_drewN|apply below_drew1)|exact HB.out)) hb);have n1_:=Aside0.mk (hbox);have n2_:=Aside0.mk ((by rw [hg];exact (below_size (by repeat (first|(with_reducible first|exact HB.out|apply below_alloc|apply pw_below_drewN|apply below_drew1)|exact HB.out))):w.heap.size ≤ gb136));have n3_:=n2_;clear HB;have HB:=n0_;have BK136:=n1_;have GW136:=n2_;have GE136:=n3_;clear n0_ n1_ n2_ n3_;clear hb hbox hg;have hcz6_0:w5.cell? ⟨gb136,0,none⟩ = some (.string a0_0):=(blk_cell BK136.out 0).trans rfl;have hcz6_1:w5.cell? ⟨gb136,1,none⟩ = some (.slice A0_1 l0_1.length c0_1):=(blk_cell BK136.out 1).trans rfl;have hcz6_2:w5.cell? ⟨gb136,2,none⟩ = some (.bool a0_2):=(blk_cell BK136.out 2).trans rfl;have hcz6_3:w5.cell? ⟨gb136,3,none⟩ = some (.string a0_3):=(blk_cell BK136.out 3).trans rfl;have hfz6_0:=blk_frozen BK136.out 0;have hfz6_1:=blk_frozen BK136.out 1;have hfz6_2:=blk_frozen BK136.out 2;have hfz6_3:=blk_frozen BK136.out 3)|((with_reducible refine gate_callee (f:=29) rfl ?_);refine goesL_ (some 4) rfl rfl Tryd.func29 (by kernel_rfl) rfl #[.agg #[.string a0_0, .slice A0_1 l0_1.length c0_1, .bool a0_2, .string a0_3]] rfl (by (try simp only [List.map_toArray,List.map_cons,List.map_nil]);first|done|rfl|(simp only [List.length_drop,List.length_take];rfl)) ?_;(with_reducible refine (spec_AddrOk.calls k a0_0 _ _ l0_1 a0_2 a0_3 true _ ?side1 ?side2 A2.out).mono ?_);(case side1=>repeat (first|exact (Kd.C_below HR0_1.out HB.out)|(with_reducible refine Kd.C_alloc ?_ _)|(with_reducible refine Kd.C_drewN ?_ _)|(with_reducible refine Kd.C_drew ?_)));(case side2=>exact HC0_1.out);rintro e w7 ⟨rfl,hb⟩;refine ⟨_,rfl,?_⟩;have n0_:=Aside0.mk (blk_below (g:=gb136) (o:=.cells #[.string a0_0, .slice A0_1 l0_1.length c0_1, .bool a0_2, .string a0_3] 24 (0,0)) (by (with_reducible repeat (first|refine blk_drewN ?_ _|refine blk_drew ?_|refine blk_alloc ?_ _));exact BK136.out) hb);have n1_:=Aside0.mk (below_step (by repeat (first|(with_reducible first|exact HB.out|apply below_alloc|apply pw_below_drewN|apply below_drew1|refine below_set ?_ GE136.out)|exact HB.out)) hb);clear BK136;clear HB;have BK136:=n0_;have HB:=n1_;clear n0_ n1_;(try clear hb);(try clear hb2);(try clear hk);(try clear hi);have hcz8_0:w7.cell? ⟨gb136,0,none⟩ = some (.string a0_0):=(blk_cell BK136.out 0).trans rfl;have hcz8_1:w7.cell? ⟨gb136,1,none⟩ = some (.slice A0_1 l0_1.length c0_1):=(blk_cell BK136.out 1).trans rfl;have hcz8_2:w7.cell? ⟨gb136,2,none⟩ = some (.bool a0_2):=(blk_cell BK136.out 2).trans rfl;have hcz8_3:w7.cell? ⟨gb136,3,none⟩ = some (.string a0_3):=(blk_cell BK136.out 3).trans rfl;have hfz8_0:=blk_frozen BK136.out 0;have hfz8_1:=blk_frozen BK136.out 1;have hfz8_2:=blk_frozen BK136.out 2;have hfz8_3:=blk_frozen BK136.out 3)|((with_reducible refine gate_callee (f:=30) rfl ?_);refine goesL_ (some 7) rfl rfl Tryd.func30 (by kernel_rfl) rfl #[.agg #[.string a0_0, .slice A0_1 l0_1.length c0_1, .bool a0_2, .string a0_3]] rfl (by (try simp only [List.map_toArray,List.map_cons,List.map_nil]);first|done|rfl|(simp only [List.length_drop,List.length_take];rfl)) ?_;(with_reducible refine (spec_l1Text.calls k a0_0 _ _ l0_1 a0_2 a0_3 t138 _ ?side1 ?side2 A4.out).mono ?_);(case side1=>repeat (first|exact (Kd.C_below HR0_1.out HB.out)|(with_reducible refine Kd.C_alloc ?_ _)|(with_reducible refine Kd.C_drewN ?_ _)|(with_reducible refine Kd.C_drew ?_)));(case side2=>exact HC0_1.out);rintro e w9 ⟨rfl,hb⟩;refine ⟨_,rfl,?_⟩;have n0_:=Aside0.mk (blk_below (g:=gb136) (o:=.cells #[.string a0_0, .slice A0_1 l0_1.length c0_1, .bool a0_2, .string a0_3] 24 (0,0)) (by (with_reducible repeat (first|refine blk_drewN ?_ _|refine blk_drew ?_|refine blk_alloc ?_ _));exact BK136.out) hb);have n1_:=Aside0.mk (below_step (by repeat (first|(with_reducible first|exact HB.out|apply below_alloc|apply pw_below_drewN|apply below_drew1|refine below_set ?_ GE136.out)|exact HB.out)) hb);clear BK136;clear HB;have BK136:=n0_;have HB:=n1_;clear n0_ n1_;(try clear hb);(try clear hb2);(try clear hk);(try clear hi)))
  go_ret
  exact ⟨by first|rfl|(simp <;> rfl)|(simp [*] <;> rfl),by repeat (first|(with_reducible first|exact HB.out|apply below_alloc|apply pw_below_drewN|apply below_drew1|refine below_set ?_ GE136.out)|exact HB.out)⟩
 ·replace c3:=Bool.eq_false_iff.mpr c3
  subst c3
  have H1:(some (⟨#[]⟩:ByteArray)) = some r:=by rw [if_neg (show ¬ (false = true) by decide)] at H;exact H
  clear H
  have H:=H1
  clear H1
  obtain rfl:=Option.some.inj H
  go_enter Tryd.func15,Tryd.ntmps15
  go_wp2_with (first|((with_reducible refine gate_dst (N:=1) rfl ?_);refine box_event ?hg (N:=1) ?hd (cs:=#[.string a0_0, .slice A0_1 l0_1.length c0_1, .bool a0_2, .string a0_3]) (t:=24) ?hr ?_;(case hd=>rfl);(case hg=>rfl);(case hr=>first|(go_simp;done)|(go_simp;rfl));intro gb136 hg w10 hbox hb;have n0_:=Aside0.mk (below_step (by repeat (first|(with_reducible first|exact HB.out|apply below_alloc|apply pw_below_drewN|apply below_drew1)|exact HB.out)) hb);have n1_:=Aside0.mk (hbox);have n2_:=Aside0.mk ((by rw [hg];exact (below_size (by repeat (first|(with_reducible first|exact HB.out|apply below_alloc|apply pw_below_drewN|apply below_drew1)|exact HB.out))):w.heap.size ≤ gb136));have n3_:=n2_;clear HB;have HB:=n0_;have BK136:=n1_;have GW136:=n2_;have GE136:=n3_;clear n0_ n1_ n2_ n3_;clear hb hbox hg;have hcz11_0:w10.cell? ⟨gb136,0,none⟩ = some (.string a0_0):=(blk_cell BK136.out 0).trans rfl;have hcz11_1:w10.cell? ⟨gb136,1,none⟩ = some (.slice A0_1 l0_1.length c0_1):=(blk_cell BK136.out 1).trans rfl;have hcz11_2:w10.cell? ⟨gb136,2,none⟩ = some (.bool a0_2):=(blk_cell BK136.out 2).trans rfl;have hcz11_3:w10.cell? ⟨gb136,3,none⟩ = some (.string a0_3):=(blk_cell BK136.out 3).trans rfl;have hfz11_0:=blk_frozen BK136.out 0;have hfz11_1:=blk_frozen BK136.out 1;have hfz11_2:=blk_frozen BK136.out 2;have hfz11_3:=blk_frozen BK136.out 3)|((with_reducible refine gate_callee (f:=29) rfl ?_);refine goesL_ (some 4) rfl rfl Tryd.func29 (by kernel_rfl) rfl #[.agg #[.string a0_0, .slice A0_1 l0_1.length c0_1, .bool a0_2, .string a0_3]] rfl (by (try simp only [List.map_toArray,List.map_cons,List.map_nil]);first|done|rfl|(simp only [List.length_drop,List.length_take];rfl)) ?_;(with_reducible refine (spec_AddrOk.calls k a0_0 _ _ l0_1 a0_2 a0_3 false _ ?side1 ?side2 A2.out).mono ?_);(case side1=>repeat (first|exact (Kd.C_below HR0_1.out HB.out)|(with_reducible refine Kd.C_alloc ?_ _)|(with_reducible refine Kd.C_drewN ?_ _)|(with_reducible refine Kd.C_drew ?_)));(case side2=>exact HC0_1.out);rintro e w12 ⟨rfl,hb⟩;refine ⟨_,rfl,?_⟩;have n0_:=Aside0.mk (blk_below (g:=gb136) (o:=.cells #[.string a0_0, .slice A0_1 l0_1.length c0_1, .bool a0_2, .string a0_3] 24 (0,0)) (by (with_reducible repeat (first|refine blk_drewN ?_ _|refine blk_drew ?_|refine blk_alloc ?_ _));exact BK136.out) hb);have n1_:=Aside0.mk (below_step (by repeat (first|(with_reducible first|exact HB.out|apply below_alloc|apply pw_below_drewN|apply below_drew1|refine below_set ?_ GE136.out)|exact HB.out)) hb);clear BK136;clear HB;have BK136:=n0_;have HB:=n1_;clear n0_ n1_;(try clear hb);(try clear hb2);(try clear hk);(try clear hi)))
  go_ret
  exact ⟨by first|rfl|(simp <;> rfl)|(simp [*] <;> rfl),by repeat (first|(with_reducible first|exact HB.out|apply below_alloc|apply pw_below_drewN|apply below_drew1|refine below_set ?_ GE136.out)|exact HB.out)⟩

/-! ### spec_l71Houses: function 65 -/
def spec_l71Houses.f :Option (List ByteArray):=some (([(⟨#[97,98]⟩:ByteArray),(⟨#[99,100]⟩:ByteArray),(⟨#[101]⟩:ByteArray),(⟨#[102,111,120]⟩:ByteArray)]:List ByteArray))
theorem spec_l71Houses.calls  (r:List ByteArray) (w:World) (h:spec_l71Houses.f  = some r) :
  Calls Tryd.prog 65 #[] w fun e w'=>∃ v0_:Value,e = .returned (v0_) ∧ Kd.R Kd.string 9 w' w.heap.size (fun _=>True) v0_ r ∧ Below w.heap.size w w':=by
 have HB:=Aside0.mk (Below.refl w.heap.size w)
 have H:(some (([(⟨#[97,98]⟩:ByteArray),(⟨#[99,100]⟩:ByteArray),(⟨#[101]⟩:ByteArray),(⟨#[102,111,120]⟩:ByteArray)]:List ByteArray))) = some r:=h
 clear h
 obtain ⟨y139,hy139⟩:∃ y_:List ByteArray,y_ = (([(⟨#[97,98]⟩:ByteArray),(⟨#[99,100]⟩:ByteArray),(⟨#[101]⟩:ByteArray),(⟨#[102,111,120]⟩:ByteArray)]:List ByteArray)):=⟨_,rfl⟩
 replace H:(some y139) = some r:=by first|(rw [hy139];with_reducible exact H)|(have H2_:=(Option.bind_some _ _).symm.trans H;rw [hy139];with_reducible exact H2_)|(have H2_:=(Option.bind_some _ _).symm.trans H;with_reducible exact H2_)|with_reducible exact H|(rw [hy139];exact H)|exact H
 have Ny139:=Aside0.mk hy139
 clear hy139
 obtain rfl:=Option.some.inj H
 go_enter Tryd.func65,Tryd.ntmps65
 go_wp2_with (first|((with_reducible refine gate_dst (N:=1) rfl ?_);refine Kd.R_lit Kd.string _ 9 ?hg (N:=1) ?hd (xs:=([(⟨#[97,98]⟩:ByteArray),(⟨#[99,100]⟩:ByteArray),(⟨#[101]⟩:ByteArray),(⟨#[102,111,120]⟩:ByteArray)]:List ByteArray)) (inner:=[.string (⟨#[97,98]⟩:ByteArray), .string (⟨#[99,100]⟩:ByteArray), .string (⟨#[101]⟩:ByteArray), .string (⟨#[102,111,120]⟩:ByteArray)]) (ok:=fun _=>True) (okp:=fun _=>True) ?hr ?hp (fun _ hk=>hk) trivial (Below.refl _ _) (Nat.le_refl _) (by simp) ?_;(case hd=>rfl);(case hg=>rfl);(case hr=>first|(go_simp;done)|(go_simp;rfl));(case hp=>exact (Reps.one (show Kd.M Kd.string _ _ _ (⟨#[97,98]⟩:ByteArray) [.string (⟨#[97,98]⟩:ByteArray)] from rfl) (Reps.one (show Kd.M Kd.string _ _ _ (⟨#[99,100]⟩:ByteArray) [.string (⟨#[99,100]⟩:ByteArray)] from rfl) (Reps.one (show Kd.M Kd.string _ _ _ (⟨#[101]⟩:ByteArray) [.string (⟨#[101]⟩:ByteArray)] from rfl) (Reps.one (show Kd.M Kd.string _ _ _ (⟨#[102,111,120]⟩:ByteArray) [.string (⟨#[102,111,120]⟩:ByteArray)] from rfl) (Reps.none _ _))))));intro v140 w1 ho2 hb hg_ hnew_;clear hg_ hnew_;(first|rw [← Ny139.out] at ho2|(simp only [Int.reduceToNat] at ho2;rw [← Ny139.out] at ho2));have n0_:=Aside0.mk (Kd.R_lower ho2 (below_size (by repeat (first|(with_reducible first|exact HB.out|apply below_alloc|apply pw_below_drewN|apply below_drew1)|exact HB.out))));have n1_:=Aside0.mk (below_step (by repeat (first|(with_reducible first|exact HB.out|apply below_alloc|apply pw_below_drewN|apply below_drew1)|exact HB.out)) hb);clear HB;have HO141:=n0_;have HB:=n1_;clear n0_ n1_;clear hb ho2))
 go_ret
 exact ⟨_,by first|rfl|(simp <;> rfl)|(simp [*] <;> rfl),by (with_reducible repeat (first|apply Kd.R_alloc|apply Kd.R_drewN|apply Kd.R_drew));exact HO141.out,by repeat (first|(with_reducible first|exact HB.out|apply below_alloc|apply pw_below_drewN|apply below_drew1)|exact HB.out)⟩

/-! ### spec_l71Addr: function 46 -/
def spec_l71Addr.l0:Nat → Int → List Int → Int → ByteArray → List ByteArray → Bool → ByteArray → Option (ByteArray × Int)
 | 0,_,_,_,_,_,_,_=>none
 | k + 1,x4,x1000,x1001,x149000,x149001,x149002,x149003=>if x4 > 0 then ((spec_l6Rd_of.f k x1000 x1001 (([(⟨#[97]⟩:ByteArray),(⟨#[98]⟩:ByteArray),(⟨#[99]⟩:ByteArray),(⟨#[110,111,116,105,99,101]⟩:ByteArray)]:List ByteArray))).bind fun bt154=>(if x149001.length < 8796093022208 then (spec_l71Addr.l0 k (wrap64 (x4 - 1)) x1000 bt154.2 x149000 (x149001 ++ [bt154.1]) x149002 x149003) else (none))) else ((spec_l6Rd_pick.f k x1000 x1001 8).bind fun bt159=>(if bt159.1 = 0 then ((spec_l6Rd_of.f k x1000 bt159.2 (([(⟨#[]⟩:ByteArray),(⟨#[97]⟩:ByteArray),(⟨#[98,37,51,68]⟩:ByteArray)]:List ByteArray))).bind fun bt164=>((spec_AddrText.f k x149000 x149001 true bt164.1).bind fun t166=>(some (t166,bt164.2)))) else ((spec_AddrText.f k x149000 x149001 x149002 x149003).bind fun t167=>(some (t167,bt159.2)))))
def spec_l71Addr.f (k:Nat) (s0_0:List Int) (s0_1:Int):Option (ByteArray × Int):=(spec_l71Houses.f).bind fun t142=>((spec_l6Rd_pick.f k s0_0 s0_1 4).bind fun bt145=>(if 0 ≤ bt145.1 then (if bt145.1 < (t142.length:Int) then ((spec_l6Rd_pick.f k s0_0 bt145.2 3).bind fun bt149=>(spec_l71Addr.l0 k bt149.1 s0_0 bt149.2 (rdOf ByteArray.empty t142 bt145.1) ([]:List ByteArray) false (⟨#[]⟩:ByteArray))) else (none)) else (none)))
theorem spec_l71Addr.mono_l:∀ k,(∀ y0 y1 y2 y3 y4 y5 y6,LeO (spec_l71Addr.l0 k y0 y1 y2 y3 y4 y5 y6) (spec_l71Addr.l0 (k + 1) y0 y1 y2 y3 y4 y5 y6))
 | 0=>fun _ _ _ _ _ _ _ r h=>by simp [spec_l71Addr.l0] at h
 | k + 1=>by
  have ih0:=spec_l71Addr.mono_l k
  ·intro y0 y1 y2 y3 y4 y5 y6
   unfold spec_l71Addr.l0
   repeat' first
   | (with_reducible exact ih0 _ _ _ _ _ _ _)
   | (with_reducible exact spec_AddrText.mono _ _ _ _ _)
   | (with_reducible exact spec_l6Rd_of.mono _ _ _ _)
   | (with_reducible exact spec_l6Rd_pick.mono _ _ _ _)
   | (with_reducible exact LeO.refl _)
   | (with_reducible exact LeO.none _)
   | (with_reducible refine LeO.ite ?_ ?_)
   | (with_reducible refine LeO.bind ?_ (fun _=>?_))
   | exact ih0 _ _ _ _ _ _ _
   | exact spec_AddrText.mono _ _ _ _ _
   | exact spec_l6Rd_of.mono _ _ _ _
   | exact spec_l6Rd_pick.mono _ _ _ _
   | exact LeO.none _
   | refine LeO.ite ?_ ?_
   | refine LeO.bind ?_ (fun _=>?_)
theorem spec_l71Addr.mono:∀ a0 a1 k,LeO (spec_l71Addr.f k a0 a1) (spec_l71Addr.f (k + 1) a0 a1):=by
 intro a0 a1 k
 have ih0:=spec_l71Addr.mono_l k
 unfold spec_l71Addr.f
 repeat' first
   | (with_reducible exact ih0 _ _ _ _ _ _ _)
   | (with_reducible exact spec_AddrText.mono _ _ _ _ _)
   | (with_reducible exact spec_l6Rd_of.mono _ _ _ _)
   | (with_reducible exact spec_l6Rd_pick.mono _ _ _ _)
   | (with_reducible exact LeO.refl _)
   | (with_reducible exact LeO.none _)
   | (with_reducible refine LeO.ite ?_ ?_)
   | (with_reducible refine LeO.bind ?_ (fun _=>?_))
   | exact ih0 _ _ _ _ _ _ _
   | exact spec_AddrText.mono _ _ _ _ _
   | exact spec_l6Rd_of.mono _ _ _ _
   | exact spec_l6Rd_pick.mono _ _ _ _
   | exact LeO.none _
   | refine LeO.ite ?_ ?_
   | refine LeO.bind ?_ (fun _=>?_)
def spec_l71Addr.T5:Bool × List (List Nat × List Nat):=(true,[([],[]),([0],[0]),([],[]),([],[]),([2,3],[2,3]),([4],[4]),([1,5,4],[1,5]),([0,1,2,3,4,5,6],[]),([7,6,6,0,1,2,3,4,5,6],[6,7])])
def spec_l71Addr.B5:List Nat:=[0,1,0,0,12,28,63,127,255]
theorem spec_l71Addr.tab5:rtab .any (opsOf Tryd.f46 5) = spec_l71Addr.T5:=by kernel_rfl
theorem spec_l71Addr.bits5:waitsOk spec_l71Addr.T5.2 spec_l71Addr.B5 = true:=by kernel_rfl
theorem spec_l71Addr.calls (k:Nat) (g:Nat) (s0_0:List Int) (s0_1:Int) (r1:ByteArray) (r2:Int) (w0 w:World) (hI:IsS55 w0 w g s0_0 s0_1) (hB:Below w0.heap.size w0 w) (h:spec_l71Addr.f k s0_0 s0_1 = some (r1,r2)) :
  Calls Tryd.prog 46 #[.pointer (some ⟨g,0,none⟩)] w fun e w'=>e = .returned (.string r1) ∧ IsS55 w0 w' g s0_0 r2 ∧ Below w0.heap.size w0 w' ∧ KeepBut w w' g none:=by
 have hu24:=Tryd.underlying24
 have HI0:=Aside0.mk hI
 have HK:=Aside0.mk (KeepBut.refl w g none)
 have HL:=Aside0.mk hB.size
 clear hI
 have HW0:=Aside0.mk hB.size
 have HB:=Aside0.mk hB
 clear hB
 have H:((spec_l71Houses.f).bind fun t142=>((spec_l6Rd_pick.f k s0_0 s0_1 4).bind fun bt145=>(if 0 ≤ bt145.1 then (if bt145.1 < (t142.length:Int) then ((spec_l6Rd_pick.f k s0_0 bt145.2 3).bind fun bt149=>(spec_l71Addr.l0 k bt149.1 s0_0 bt149.2 (rdOf ByteArray.empty t142 bt145.1) ([]:List ByteArray) false (⟨#[]⟩:ByteArray))) else (none)) else (none)))) = some (r1,r2):=h
 clear h
 replace H:=Option.bind_eq_some_iff.mp H
 obtain ⟨t142,A20,H⟩:=H
 replace H:((spec_l6Rd_pick.f k s0_0 s0_1 4).bind fun bt145=>(if 0 ≤ bt145.1 then (if bt145.1 < (t142.length:Int) then ((spec_l6Rd_pick.f k s0_0 bt145.2 3).bind fun bt149=>(spec_l71Addr.l0 k bt149.1 s0_0 bt149.2 (rdOf ByteArray.empty t142 bt145.1) ([]:List ByteArray) false (⟨#[]⟩:ByteArray))) else (none)) else (none))) = some (r1,r2):=H
 have A2:=Aside0.mk A20
 clear A20
 replace H:=Option.bind_eq_some_iff.mp H
 obtain ⟨⟨t145,t146⟩,A30,H⟩:=H
 replace H:(if 0 ≤ t145 then (if t145 < (t142.length:Int) then ((spec_l6Rd_pick.f k s0_0 t146 3).bind fun bt149=>(spec_l71Addr.l0 k bt149.1 s0_0 bt149.2 (rdOf ByteArray.empty t142 t145) ([]:List ByteArray) false (⟨#[]⟩:ByteArray))) else (none)) else (none)) = some (r1,r2):=H
 have A3:=Aside0.mk A30
 clear A30
 by_cases c4:0 ≤ t145
 ·rw [if_pos c4] at H
  have c4b0:decide (0 ≤ t145) = true:=decide_eq_true c4
  clear c4
  by_cases c5:t145 < (t142.length:Int)
  ·rw [if_pos c5] at H
   have c5b0:decide (t145 < (t142.length:Int)) = true:=decide_eq_true c5
   clear c5
   replace H:=Option.bind_eq_some_iff.mp H
   obtain ⟨⟨t149,t150⟩,A60,H⟩:=H
   replace H:(spec_l71Addr.l0 k t149 s0_0 t150 (rdOf ByteArray.empty t142 t145) ([]:List ByteArray) false (⟨#[]⟩:ByteArray)) = some (r1,r2):=H
   have A6:=Aside0.mk A60
   clear A60
   have H':=Aside0.mk H
   clear H
   go_enter Tryd.func46,Tryd.ntmps46
   go_wp2_with (first|((with_reducible refine gate_callee (f:=65) rfl ?_);refine goesL_ (some 5) rfl rfl Tryd.func65 (by kernel_rfl) rfl #[] rfl (by (try simp only [List.map_toArray,List.map_cons,List.map_nil]);first|done|rfl|(simp only [List.length_drop,List.length_take];rfl)) ?_;(with_reducible refine (spec_l71Houses.calls  t142 _ A2.out).mono ?_);rintro e w7 ⟨v143,rfl,ho0,hb⟩;refine ⟨_,rfl,?_⟩;have n0_:=Aside0.mk (Kd.R_lower ho0 (keep_size (w:=w) (g:=g) (row:=none) (by repeat (first|(with_reducible first|exact HK.out|apply KeepBut.set_|apply keep_drewN|apply keep_drew|apply keep_alloc)|exact HK.out))));have n1_:=Aside0.mk (IsS55.below (by repeat (first|(with_reducible first|exact HI0.out|apply IsS55.alloc|apply IsS55.drewN|apply IsS55.drew|apply IsS55.set_1)|exact HI0.out)) hb);have n2_:=Aside0.mk (KeepBut.trans (by repeat (first|(with_reducible first|exact HK.out|apply KeepBut.set_|apply keep_drewN|apply keep_drew|apply keep_alloc)|exact HK.out)) (KeepBut.of_below hb g none) (.inl rfl));have n3_:=Aside0.mk (below_step (by repeat (first|(with_reducible first|exact HB.out|apply below_alloc|apply pw_below_drewN|apply below_drew1|refine below_set ?_ (IsS55.ge HI0.out))|exact HB.out)) hb);clear HI0;clear HK;clear HB;have HO144:=n0_;have HI0:=n1_;have HK:=n2_;have HB:=n3_;clear n0_ n1_ n2_ n3_;(try clear hb);(try clear hb2);(try clear hk);(try clear hi);(try clear ho0))|((with_reducible refine gate_callee (f:=32) rfl ?_);refine goesL_ (some 7) rfl rfl Tryd.func32 (by kernel_rfl) rfl #[.pointer (some ⟨g,0,none⟩), .int .i64 4] rfl (by (try simp only [List.map_toArray,List.map_cons,List.map_nil]);first|done|rfl|(simp only [List.length_drop,List.length_take];rfl)) ?_;(with_reducible refine (spec_l6Rd_pick.calls k g s0_0 s0_1 4 t145 t146 w0 _ ?side1 ?side2 A3.out).mono ?_);(case side1=>repeat (first|(with_reducible first|exact HI0.out|apply IsS55.alloc|apply IsS55.drewN|apply IsS55.drew|apply IsS55.set_1)|exact HI0.out));(case side2=>repeat (first|(with_reducible first|exact HB.out|apply below_alloc|apply pw_below_drewN|apply below_drew1|refine below_set ?_ (IsS55.ge HI0.out))|exact HB.out));rintro e w8 ⟨rfl,hi,hb,hk⟩;refine ⟨_,rfl,?_⟩;have n0_:=Aside0.mk (Kd.R_mono (Kd.R_keep (IsS55.apart (show IsS55 w0 _ g s0_0 s0_1 from by repeat (first|(with_reducible first|exact HI0.out|apply IsS55.alloc|apply IsS55.drewN|apply IsS55.drew|apply IsS55.set_1)|exact HI0.out)) (by (with_reducible repeat (first|apply Kd.R_alloc|apply Kd.R_drewN|apply Kd.R_drew));exact HO144.out) (by decide)) hk (fun _ h=>h.2)) (fun _ h=>h.1));have n1_:=Aside0.mk (KeepBut.trans (by repeat (first|(with_reducible first|exact HK.out|apply KeepBut.set_|apply keep_drewN|apply keep_drew|apply keep_alloc)|exact HK.out)) hk (.inl rfl));have n2_:=Aside0.mk (hb);have n3_:=Aside0.mk (hi);clear HO144;clear HK;clear HB;clear HI0;have HO144:=n0_;have HK:=n1_;have HB:=n2_;have HI0:=n3_;clear n0_ n1_ n2_ n3_;(try clear hb);(try clear hb2);(try clear hk);(try clear hi);obtain ⟨Ao9,co9,eo9⟩:=Kd.R_slice HO144.out;subst eo9;have p147:0 ≤ (t145:Int):=of_decide_eq_true (by first|(with_reducible assumption)|assumption);have q147:t145 < (t142.length:Int):=of_decide_eq_true (by first|(with_reducible assumption)|assumption);obtain ⟨ad147,e147,hx147_0⟩:=Kd.at_string (Kd.R_reads' HO144.out).2.2 t145 p147 q147;cases e147;replace p147:=eq_true p147;replace q147:=eq_true q147)|((with_reducible refine gate_dst (N:=3) rfl ?_);refine box_event ?hg (N:=3) ?hd (cs:=#[.string (⟨#[]⟩:ByteArray), .slice none 0 0, .bool false, .string (⟨#[]⟩:ByteArray)]) (t:=24) ?hr ?_;(case hd=>rfl);(case hg=>rfl);(case hr=>first|(go_simp;done)|(go_simp;rfl));intro gb148 hg w10 hbox hb;have n0_:=Aside0.mk (Kd.R_below (by (with_reducible repeat (first|apply Kd.R_alloc|apply Kd.R_drewN|apply Kd.R_drew));exact HO144.out) hb);have n1_:=Aside0.mk (IsS55.below (by repeat (first|(with_reducible first|exact HI0.out|apply IsS55.alloc|apply IsS55.drewN|apply IsS55.drew|apply IsS55.set_1)|exact HI0.out)) hb);have n2_:=Aside0.mk (KeepBut.trans (by repeat (first|(with_reducible first|exact HK.out|apply KeepBut.set_|apply keep_drewN|apply keep_drew|apply keep_alloc)|exact HK.out)) (KeepBut.of_below hb g none) (.inl rfl));have n3_:=Aside0.mk (below_step (by repeat (first|(with_reducible first|exact HB.out|apply below_alloc|apply pw_below_drewN|apply below_drew1|refine below_set ?_ (IsS55.ge HI0.out))|exact HB.out)) hb);have n4_:=Aside0.mk (hbox);have n5_:=Aside0.mk ((by rw [hg];exact (keep_size (w:=w) (g:=g) (row:=none) (by repeat (first|(with_reducible first|exact HK.out|apply KeepBut.set_|apply keep_drewN|apply keep_drew|apply keep_alloc)|exact HK.out))):w.heap.size ≤ gb148));have n6_:=Aside0.mk ((Nat.le_trans HW0.out (by rw [hg];exact (keep_size (w:=w) (g:=g) (row:=none) (by repeat (first|(with_reducible first|exact HK.out|apply KeepBut.set_|apply keep_drewN|apply keep_drew|apply keep_alloc)|exact HK.out))):w.heap.size ≤ gb148):w0.heap.size ≤ gb148));have n7_:=Aside0.mk ((by rw [hg];exact Nat.ne_of_lt (IsS55.lt (show IsS55 w0 _ g s0_0 t146 from by repeat (first|(with_reducible first|exact HI0.out|apply IsS55.alloc|apply IsS55.drewN|apply IsS55.drew|apply IsS55.set_1)|exact HI0.out))):g ≠ gb148));have n8_:=Aside0.mk ((by rw [hg];exact Nat.ne_of_gt (IsS55.lt (show IsS55 w0 _ g s0_0 t146 from by repeat (first|(with_reducible first|exact HI0.out|apply IsS55.alloc|apply IsS55.drewN|apply IsS55.drew|apply IsS55.set_1)|exact HI0.out))):gb148 ≠ g));clear HO144;clear HI0;clear HK;clear HB;have HO144:=n0_;have HI0:=n1_;have HK:=n2_;have HB:=n3_;have BK148:=n4_;have GW148:=n5_;have GE148:=n6_;have NB0_148:=n7_;have NB148_0:=n8_;clear n0_ n1_ n2_ n3_ n4_ n5_ n6_ n7_ n8_;clear hb hbox hg;have hnb11:=NB148_0.out;have hnc11:=NB0_148.out;have hcz12_0:w10.cell? ⟨gb148,0,none⟩ = some (.string (⟨#[]⟩:ByteArray)):=(blk_cell BK148.out 0).trans rfl;have hcz12_1:w10.cell? ⟨gb148,1,none⟩ = some (.slice none 0 0):=(blk_cell BK148.out 1).trans rfl;have hcz12_2:w10.cell? ⟨gb148,2,none⟩ = some (.bool false):=(blk_cell BK148.out 2).trans rfl;have hcz12_3:w10.cell? ⟨gb148,3,none⟩ = some (.string (⟨#[]⟩:ByteArray)):=(blk_cell BK148.out 3).trans rfl;have hfz12_0:=blk_frozen BK148.out 0;have hfz12_1:=blk_frozen BK148.out 1;have hfz12_2:=blk_frozen BK148.out 2;have hfz12_3:=blk_frozen BK148.out 3)|((with_reducible refine gate_callee (f:=32) rfl ?_);refine goesL_ (some 12) rfl rfl Tryd.func32 (by kernel_rfl) rfl #[.pointer (some ⟨g,0,none⟩), .int .i64 3] rfl (by (try simp only [List.map_toArray,List.map_cons,List.map_nil]);first|done|rfl|(simp only [List.length_drop,List.length_take];rfl)) ?_;(with_reducible refine (spec_l6Rd_pick.calls k g s0_0 t146 3 t149 t150 w0 _ ?side1 ?side2 A6.out).mono ?_);(case side1=>repeat (first|(with_reducible first|exact HI0.out|apply IsS55.alloc|apply IsS55.drewN|apply IsS55.drew|apply IsS55.set_1|refine IsS55.far ?_ NB0_148.out _)|exact HI0.out));(case side2=>repeat (first|(with_reducible first|exact HB.out|apply below_alloc|apply pw_below_drewN|apply below_drew1|refine below_set ?_ (IsS55.ge HI0.out)|refine below_set ?_ GE148.out)|exact HB.out));rintro e w13 ⟨rfl,hi,hb,hk⟩;refine ⟨_,rfl,?_⟩;have n0_:=Aside0.mk (Kd.R_mono (Kd.R_keep (IsS55.apart (show IsS55 w0 _ g s0_0 t146 from by repeat (first|(with_reducible first|exact HI0.out|apply IsS55.alloc|apply IsS55.drewN|apply IsS55.drew|apply IsS55.set_1|refine IsS55.far ?_ NB0_148.out _)|exact HI0.out)) (by (with_reducible repeat (first|apply Kd.R_alloc|apply Kd.R_drewN|apply Kd.R_drew));exact (Kd.R_mono (Kd.R_far (p:=⟨gb148,3,none⟩) (Kd.R_far (p:=⟨gb148,2,none⟩) (Kd.R_far (p:=⟨gb148,1,none⟩) (Kd.R_far (p:=⟨gb148,0,none⟩) (Kd.R_types HO144.out BK148.out (by decide)) (fun _ hk=>hk.2) (.string (rdOf ByteArray.empty t142 t145))) (fun _ hk=>hk.2) (.slice none 0 0)) (fun _ hk=>hk.2) (.bool false)) (fun _ hk=>hk.2) (.string (⟨#[]⟩:ByteArray))) (fun _ h_=>h_.1))) (by decide)) hk (fun _ h=>h.2)) (fun _ h=>h.1));have n1_:=Aside0.mk (KeepBut.blk hk (g':=gb148) (o:=.cells #[.string (rdOf ByteArray.empty t142 t145), .slice none 0 0, .bool false, .string (⟨#[]⟩:ByteArray)] 24 (0,0)) (by (with_reducible repeat (first|refine blk_drewN ?_ _|refine blk_drew ?_|refine blk_alloc ?_ _));refine blk_put (cs:=#[.string (rdOf ByteArray.empty t142 t145), .slice none 0 0, .bool false, .string (⟨#[]⟩:ByteArray)]) ?_ 3 _ rfl;(with_reducible repeat (first|refine blk_drewN ?_ _|refine blk_drew ?_|refine blk_alloc ?_ _));refine blk_put (cs:=#[.string (rdOf ByteArray.empty t142 t145), .slice none 0 0, .bool false, .string (⟨#[]⟩:ByteArray)]) ?_ 2 _ rfl;(with_reducible repeat (first|refine blk_drewN ?_ _|refine blk_drew ?_|refine blk_alloc ?_ _));refine blk_put (cs:=#[.string (rdOf ByteArray.empty t142 t145), .slice none 0 0, .bool false, .string (⟨#[]⟩:ByteArray)]) ?_ 1 _ rfl;(with_reducible repeat (first|refine blk_drewN ?_ _|refine blk_drew ?_|refine blk_alloc ?_ _));refine blk_put (cs:=#[.string (⟨#[]⟩:ByteArray), .slice none 0 0, .bool false, .string (⟨#[]⟩:ByteArray)]) ?_ 0 _ rfl;(with_reducible repeat (first|refine blk_drewN ?_ _|refine blk_drew ?_|refine blk_alloc ?_ _));exact BK148.out) NB148_0.out (by simp));have n2_:=Aside0.mk (KeepBut.trans (by repeat (first|(with_reducible first|exact HK.out|apply KeepBut.set_|apply keep_drewN|apply keep_drew|apply keep_alloc|refine keep_far ?_ GW148.out _)|exact HK.out)) hk (.inl rfl));have n3_:=Aside0.mk (hb);have n4_:=Aside0.mk (hi);clear HO144;clear BK148;clear HK;clear HB;clear HI0;have HO144:=n0_;have BK148:=n1_;have HK:=n2_;have HB:=n3_;have HI0:=n4_;clear n0_ n1_ n2_ n3_ n4_;(try clear hb);(try clear hb2);(try clear hk);(try clear hi)))
   go_loopg [4] k (fun kq v4 w'=>∃ (x4_1:Int) (x1001_1:Int) (x149001_1:List ByteArray) (u149001:Value),v4 = .int .i64 x4_1 ∧ Aside0 (spec_l71Addr.l0 kq x4_1 s0_0 x1001_1 (rdOf ByteArray.empty t142 t145) x149001_1 false (⟨#[]⟩:ByteArray) = some (r1,r2)) ∧ Aside0 (kq ≤ k) ∧ Aside0 (Kd.R Kd.string 9 w' w.heap.size (fun _=>True) u149001 x149001_1) ∧ Aside0 (w'.heap[gb148]? = some (.cells #[.string (rdOf ByteArray.empty t142 t145),u149001, .bool false, .string (⟨#[]⟩:ByteArray)] 24 (0,0))) ∧ Aside0 (IsS55 w0 w' g s0_0 x1001_1) ∧ Aside0 (KeepBut w w' g none) ∧ Aside0 (Below w0.heap.size w0 w'))
   case atStart=>exact ⟨(t149),(t150),(([]:List ByteArray)),(.slice none 0 0),(by first|rfl|(simp;done)|(simp only [i64_w,i32_w];done)|(simp only [i64_w,i32_w];rfl)|(simp [*];done)|(simp [emp_bne,emp_beq];done)),H',⟨Nat.le_refl _⟩,⟨by first|exact Kd.R_nil _ _ _ _ _|exact Kd.N_nil _ _ _ _ _|exact Kd.V_nil _ _ _ _ _|exact Kd.Q_nil _ _ _ _ _|exact Kd.S_nil _ _ _ _ _⟩,⟨by (with_reducible repeat (first|refine blk_drewN ?_ _|refine blk_drew ?_|refine blk_alloc ?_ _));exact BK148.out⟩,⟨by repeat (first|(with_reducible first|exact HI0.out|apply IsS55.alloc|apply IsS55.drewN|apply IsS55.drew|apply IsS55.set_1|refine IsS55.far ?_ NB0_148.out _)|exact HI0.out)⟩,⟨by repeat (first|(with_reducible first|exact HK.out|apply KeepBut.set_|apply keep_drewN|apply keep_drew|apply keep_alloc|refine keep_far ?_ GW148.out _)|exact HK.out)⟩,⟨by repeat (first|(with_reducible first|exact HB.out|apply below_alloc|apply pw_below_drewN|apply below_drew1|refine below_set ?_ (IsS55.ge HI0.out)|refine below_set ?_ GE148.out)|exact HB.out)⟩⟩
   case round =>
    clear H'
    try clear c1
    try clear p1
    try clear q1
    try clear hx1
    try clear p2
    try clear c3
    try clear c4
    try clear c4b0
    try clear c5
    try clear c5b0
    try clear c6
    try clear c11
    try clear hcz12_0
    try clear hcz12_1
    try clear hcz12_2
    try clear hcz12_3
    try clear hfz12_0
    try clear hfz12_1
    try clear hfz12_2
    try clear hfz12_3
    try clear hx147_0
    try clear p147
    try clear q147
    obtain ⟨x4_1,x1001_1,x149001_1,u149001,rfl,HA,HK1,HO_149001,BK148,HI0,HK,HB⟩:=hrel
    cases gk with
    | zero=>exact absurd HA.out (by simp [spec_l71Addr.l0])
    | succ k1 =>
     have H:=HA.out
     clear HA
     simp only [spec_l71Addr.l0] at H
     by_cases c14:x4_1 > 0
     ·rw [if_pos c14] at H
      have c14b0:decide (0 < x4_1) = true:=decide_eq_true c14
      clear c14
      obtain ⟨y151,hy151⟩:∃ y_:List ByteArray,y_ = (([(⟨#[97]⟩:ByteArray),(⟨#[98]⟩:ByteArray),(⟨#[99]⟩:ByteArray),(⟨#[110,111,116,105,99,101]⟩:ByteArray)]:List ByteArray)):=⟨_,rfl⟩
      replace H:((spec_l6Rd_of.f k1 s0_0 x1001_1 y151).bind fun bt154=>(if x149001_1.length < 8796093022208 then (spec_l71Addr.l0 k1 (wrap64 (x4_1 - 1)) s0_0 bt154.2 (rdOf ByteArray.empty t142 t145) (x149001_1 ++ [bt154.1]) false (⟨#[]⟩:ByteArray)) else (none))) = some (r1,r2):=by first|(rw [hy151];with_reducible exact H)|(have H2_:=(Option.bind_some _ _).symm.trans H;rw [hy151];with_reducible exact H2_)|(have H2_:=(Option.bind_some _ _).symm.trans H;with_reducible exact H2_)|with_reducible exact H|(rw [hy151];exact H)|exact H
      have Ny151:=Aside0.mk hy151
      clear hy151
      replace H:=Option.bind_eq_some_iff.mp H
      obtain ⟨⟨t154,t155⟩,A150,H⟩:=H
      replace H:(if x149001_1.length < 8796093022208 then (spec_l71Addr.l0 k1 (wrap64 (x4_1 - 1)) s0_0 t155 (rdOf ByteArray.empty t142 t145) (x149001_1 ++ [t154]) false (⟨#[]⟩:ByteArray)) else (none)) = some (r1,r2):=H
      have A15:=Aside0.mk A150
      clear A150
      by_cases c16:x149001_1.length < 8796093022208
      ·rw [if_pos c16] at H
       have LMc16:=Aside0.mk c16
       clear c16
       obtain ⟨y156,hy156⟩:∃ y_:List ByteArray,y_ = (x149001_1 ++ [t154]):=⟨_,rfl⟩
       replace H:(spec_l71Addr.l0 k1 (wrap64 (x4_1 - 1)) s0_0 t155 (rdOf ByteArray.empty t142 t145) y156 false (⟨#[]⟩:ByteArray)) = some (r1,r2):=by first|(rw [hy156];with_reducible exact H)|(have H2_:=(Option.bind_some _ _).symm.trans H;rw [hy156];with_reducible exact H2_)|(have H2_:=(Option.bind_some _ _).symm.trans H;with_reducible exact H2_)|with_reducible exact H|(rw [hy156];exact H)|exact H
       have Ny156:=Aside0.mk hy156
       clear hy156
       have H':=Aside0.mk H
       clear H
       try go_wp2
       have n0_:=Aside0.mk (Kd.R_drew HO_149001.out)
       have n1_:=Aside0.mk (blk_drew BK148.out)
       have n2_:=Aside0.mk (IsS55.drew HI0.out)
       have n3_:=Aside0.mk (keep_drew HK.out)
       have n4_:=Aside0.mk (below_drew1 HB.out)
       clear HO_149001
       clear BK148
       clear HI0
       clear HK
       clear HB
       have HO_149001:=n0_
       have BK148:=n1_
       have HI0:=n2_
       have HK:=n3_
       have HB:=n4_
       clear n0_ n1_ n2_ n3_ n4_
       refine start_ (n:=9) (S:=fun w'=>w'.cell? ⟨gb148,0,none⟩ = some (.string (rdOf ByteArray.empty t142 t145)) ∧ w'.cell? ⟨gb148,1,none⟩ = some (u149001) ∧ w'.cell? ⟨gb148,2,none⟩ = some (.bool false) ∧ w'.cell? ⟨gb148,3,none⟩ = some (.string (⟨#[]⟩:ByteArray))) (ds:=[8]) #[false,false,false,false,false,false,false,false,false] (by kernel_rfl) rfl rfl ⟨(blk_cell BK148.out 0).trans rfl,(blk_cell BK148.out 1).trans rfl,(blk_cell BK148.out 2).trans rfl,(blk_cell BK148.out 3).trans rfl⟩ (fun hHeld=>?_);refine with_tabW spec_l71Addr.tab5 spec_l71Addr.bits5 (fun HT_ HW_=>?_)
       generalize wr.drew = w17 at HO_149001 BK148 HI0 HK HB hHeld ⊢
       refine pure_ (i:=0) (N:=some 17) (v:=?_) (a':=?_) #[true,false,false,false,false,false,false,false,false] rfl rfl (any_of HT_.out (by kernel_rfl)) (fun _ _ _ h=>h) (Or.inl ⟨by rfl,?_⟩) ?_ ?_
       rotate_left
       ·intro w'
        go_simp
        with_reducible rfl
       rotate_left
       ·simp only [Act.put,List.setIfInBounds_toArray,List.set_cons_zero,List.set_cons_succ,i64_w,i32_w]
        rfl
       refine pure_ (i:=2) (N:=some 19) (v:=?_) (a':=?_) #[true,false,true,false,false,false,false,false,false] rfl rfl (any_of HT_.out (by kernel_rfl)) (fun _ _ _ h=>h) (Or.inl ⟨by rfl,?_⟩) ?_ ?_
       rotate_left
       ·intro w'
        go_simp
        with_reducible rfl
       rotate_left
       ·simp only [Act.put,List.setIfInBounds_toArray,List.set_cons_zero,List.set_cons_succ,i64_w,i32_w]
        rfl
       refine take_ (i:=1) (N:=some 18) (v:=?_) (a':=?_) #[true,true,true,false,false,false,false,false,false] rfl rfl (take_ofW HT_.out HW_.out (by kernel_rfl)) (fun _ _ _ h=>h) (Or.inl ⟨by rfl,?_⟩) hHeld ?_ ?_
       rotate_left
       ·rintro w' ⟨s0,s1,s2,s3⟩
        go_simp
        with_reducible rfl
       rotate_left
       ·simp only [Act.put,List.setIfInBounds_toArray,List.set_cons_zero,List.set_cons_succ,i64_w,i32_w]
        rfl
       refine one_ (i:=3) (N:=some 20) #[true,true,true,true,false,false,false,false,false] rfl rfl (one_of HT_.out (by kernel_rfl)) (by decide) (fun K hK=>?_)
       refine Kd.R_lit_step Kd.string _ 9 ?hg (N:=20) ?hd (xs:=([(⟨#[97]⟩:ByteArray),(⟨#[98]⟩:ByteArray),(⟨#[99]⟩:ByteArray),(⟨#[110,111,116,105,99,101]⟩:ByteArray)]:List ByteArray)) (inner:=[.string (⟨#[97]⟩:ByteArray), .string (⟨#[98]⟩:ByteArray), .string (⟨#[99]⟩:ByteArray), .string (⟨#[110,111,116,105,99,101]⟩:ByteArray)]) (ok:=fun _=>True) (okp:=fun _=>True) ?hr ?hp (fun _ hk=>hk) trivial (Below.refl _ _) (Nat.le_refl _) (by simp) ?_;(case hd=>rfl);(case hg=>rfl);(case hr=>first|(go_simp;done)|(go_simp;rfl));(case hp=>exact (Reps.one (show Kd.M Kd.string _ _ _ (⟨#[97]⟩:ByteArray) [.string (⟨#[97]⟩:ByteArray)] from rfl) (Reps.one (show Kd.M Kd.string _ _ _ (⟨#[98]⟩:ByteArray) [.string (⟨#[98]⟩:ByteArray)] from rfl) (Reps.one (show Kd.M Kd.string _ _ _ (⟨#[99]⟩:ByteArray) [.string (⟨#[99]⟩:ByteArray)] from rfl) (Reps.one (show Kd.M Kd.string _ _ _ (⟨#[110,111,116,105,99,101]⟩:ByteArray) [.string (⟨#[110,111,116,105,99,101]⟩:ByteArray)] from rfl) (Reps.none _ _))))))
       intro v152 w18 ho19 hb hg_ hnew_
       clear hg_ hnew_
       (first|rw [← Ny151.out] at ho19|(simp only [Int.reduceToNat] at ho19;rw [← Ny151.out] at ho19))
       have n0_:=Aside0.mk (Kd.R_elder' (by (with_reducible repeat (first|apply Kd.R_alloc|apply Kd.R_drewN|apply Kd.R_drew));exact HO_149001.out) (Kd.R_base ho19) hb)
       have n1_:=Aside0.mk (Kd.R_lower (Kd.R_new' ho19 (Kd.R_lt (by (with_reducible repeat (first|apply Kd.R_alloc|apply Kd.R_drewN|apply Kd.R_drew));exact HO_149001.out))) (keep_size (w:=w) (g:=g) (row:=none) (by repeat (first|(with_reducible first|exact HK.out|apply KeepBut.set_|apply keep_drewN|apply keep_drew|apply keep_alloc|refine keep_far ?_ GW148.out _)|exact HK.out))))
       have n2_:=Aside0.mk (blk_below (g:=gb148) (o:=.cells #[.string (rdOf ByteArray.empty t142 t145),u149001, .bool false, .string (⟨#[]⟩:ByteArray)] 24 (0,0)) (by (with_reducible repeat (first|refine blk_drewN ?_ _|refine blk_drew ?_|refine blk_alloc ?_ _));exact BK148.out) hb)
       have n3_:=Aside0.mk (IsS55.below (by repeat (first|(with_reducible first|exact HI0.out|apply IsS55.alloc|apply IsS55.drewN|apply IsS55.drew|apply IsS55.set_1|refine IsS55.far ?_ NB0_148.out _)|exact HI0.out)) hb)
       have n4_:=Aside0.mk (KeepBut.trans (by repeat (first|(with_reducible first|exact HK.out|apply KeepBut.set_|apply keep_drewN|apply keep_drew|apply keep_alloc|refine keep_far ?_ GW148.out _)|exact HK.out)) (KeepBut.of_below hb g none) (.inl rfl))
       have n5_:=Aside0.mk (below_step (by repeat (first|(with_reducible first|exact HB.out|apply below_alloc|apply pw_below_drewN|apply below_drew1|refine below_set ?_ (IsS55.ge HI0.out)|refine below_set ?_ GE148.out)|exact HB.out)) hb)
       clear HO_149001
       clear BK148
       clear HI0
       clear HK
       clear HB
       have HO_149001:=n0_
       have HO153:=n1_
       have BK148:=n2_
       have HI0:=n3_
       have HK:=n4_
       have HB:=n5_
       clear n0_ n1_ n2_ n3_ n4_ n5_
       clear hb ho19
       obtain ⟨Ao20,co20,eo20⟩:=Kd.R_slice HO153.out
       (first|subst eo20|(injection eo20 with f1_ f2_ f3_;have f4_:=f1_.symm;have f5_:=f3_.symm;clear f1_ f2_ f3_;subst f4_;subst f5_))
       refine hK.out _ _ ⟨(blk_cell BK148.out 0).trans rfl,(blk_cell BK148.out 1).trans rfl,(blk_cell BK148.out 2).trans rfl,(blk_cell BK148.out 3).trans rfl⟩ (fun hHeld=>?_)
       clear hK K
       refine norm_ (a':=?_) ?_ ?_
       rotate_left
       ·show Act.put _ (some 20) _ = _
        simp only [Act.put,List.setIfInBounds_toArray,List.set_cons_zero,List.set_cons_succ,i64_w,i32_w]
        rfl
       refine one_ (i:=4) (N:=some 21) #[true,true,true,true,true,false,false,false,false] rfl rfl (one_of HT_.out (by kernel_rfl)) (by decide) (fun K hK=>?_)
       refine goes_ Tryd.func34 (by kernel_rfl) rfl #[.pointer (some ⟨g,0,none⟩), .slice Ao20 y151.length co20] (by rfl) rfl rfl (by (try simp only [List.map_toArray,List.map_cons,List.map_nil]);first|done|rfl|(simp only [List.length_drop,List.length_take];rfl)) ?_
       with_reducible refine (spec_l6Rd_of.calls k1 g s0_0 x1001_1 _ _ y151 t154 t155 w0 _ ?side1 ?side2 ?side3 ?side4 ?side5 A15.out).mono ?_
       (case side1=>repeat (first|(with_reducible first|exact HI0.out|apply IsS55.alloc|apply IsS55.drewN|apply IsS55.drew|apply IsS55.set_1|refine IsS55.far ?_ NB0_148.out _)|exact HI0.out))
       (case side2=>repeat (first|(with_reducible first|exact HB.out|apply below_alloc|apply pw_below_drewN|apply below_drew1|refine below_set ?_ (IsS55.ge HI0.out)|refine below_set ?_ GE148.out)|exact HB.out))
       (case side3=>repeat (first|exact (Kd.R_reads' HO153.out).2.2|(with_reducible refine Kd.C_alloc ?_ _)|(with_reducible refine Kd.C_drewN ?_ _)|(with_reducible refine Kd.C_drew ?_)))
       (case side4=>exact (Kd.R_reads' HO153.out).2.1)
       (case side5=>exact far_slice (IsS55.own_ne HI0.out HO153.out (by decide)))
       rintro e w21 ⟨rfl,hi,hb,hk⟩
       refine ⟨_,rfl,?_⟩
       have n0_:=Aside0.mk (Kd.R_mono (Kd.R_keep (IsS55.apart (show IsS55 w0 _ g s0_0 x1001_1 from by repeat (first|(with_reducible first|exact HI0.out|apply IsS55.alloc|apply IsS55.drewN|apply IsS55.drew|apply IsS55.set_1|refine IsS55.far ?_ NB0_148.out _)|exact HI0.out)) (by (with_reducible repeat (first|apply Kd.R_alloc|apply Kd.R_drewN|apply Kd.R_drew));exact HO_149001.out) (by decide)) hk (fun _ h=>h.2)) (fun _ h=>h.1))
       have n1_:=Aside0.mk (KeepBut.blk hk (g':=gb148) (o:=.cells #[.string (rdOf ByteArray.empty t142 t145),u149001, .bool false, .string (⟨#[]⟩:ByteArray)] 24 (0,0)) (by (with_reducible repeat (first|refine blk_drewN ?_ _|refine blk_drew ?_|refine blk_alloc ?_ _));exact BK148.out) NB148_0.out (by simp))
       have n2_:=Aside0.mk (Kd.R_mono (Kd.R_keep (IsS55.apart (show IsS55 w0 _ g s0_0 x1001_1 from by repeat (first|(with_reducible first|exact HI0.out|apply IsS55.alloc|apply IsS55.drewN|apply IsS55.drew|apply IsS55.set_1|refine IsS55.far ?_ NB0_148.out _)|exact HI0.out)) (by (with_reducible repeat (first|apply Kd.R_alloc|apply Kd.R_drewN|apply Kd.R_drew));exact HO153.out) (by decide)) hk (fun _ h=>h.2)) (fun _ h=>h.1))
       have n3_:=Aside0.mk (KeepBut.trans (by repeat (first|(with_reducible first|exact HK.out|apply KeepBut.set_|apply keep_drewN|apply keep_drew|apply keep_alloc|refine keep_far ?_ GW148.out _)|exact HK.out)) hk (.inl rfl))
       have n4_:=Aside0.mk (hb)
       have n5_:=Aside0.mk (hi)
       clear HO_149001
       clear BK148
       clear HO153
       clear HK
       clear HB
       clear HI0
       have HO_149001:=n0_
       have BK148:=n1_
       have HO153:=n2_
       have HK:=n3_
       have HB:=n4_
       have HI0:=n5_
       clear n0_ n1_ n2_ n3_ n4_ n5_
       (try clear hb)
       (try clear hb2)
       (try clear hk)
       (try clear hi)
       refine hK.out _ _ ⟨(blk_cell BK148.out 0).trans rfl,(blk_cell BK148.out 1).trans rfl,(blk_cell BK148.out 2).trans rfl,(blk_cell BK148.out 3).trans rfl⟩ (fun hHeld=>?_)
       clear hK K
       refine norm_ (a':=?_) ?_ ?_
       rotate_left
       ·show Act.put _ (some 21) _ = _
        simp only [Act.put,List.setIfInBounds_toArray,List.set_cons_zero,List.set_cons_succ,i64_w,i32_w]
        rfl
       refine one_ (i:=5) (N:=some 22) #[true,true,true,true,true,true,false,false,false] rfl rfl (one_of HT_.out (by kernel_rfl)) (by decide) (fun K hK=>?_)
       refine value_ (w1:=?_) (v:=?_) (by rfl) rfl ?_ ?_
       rotate_left 2
       ·go_simp
        constructor
        ·rfl
        ·rfl
       refine hK.out _ _ ⟨(blk_cell (blk_alloc BK148.out _) 0).trans rfl,(blk_cell (blk_alloc BK148.out _) 1).trans rfl,(blk_cell (blk_alloc BK148.out _) 2).trans rfl,(blk_cell (blk_alloc BK148.out _) 3).trans rfl⟩ (fun hHeld=>?_)
       clear hK K
       refine norm_ (a':=?_) ?_ ?_
       rotate_left
       ·show Act.put _ (some 22) _ = _
        simp only [Act.put,List.setIfInBounds_toArray,List.set_cons_zero,List.set_cons_succ,i64_w,i32_w]
        rfl
       refine one_ (i:=6) (N:=some 23) #[true,true,true,true,true,true,true,false,false] rfl rfl (one_of HT_.out (by kernel_rfl)) (by decide) (fun K hK=>?_)
       refine Kd.R_append_step Kd.string w.heap.size (by rfl) (.tmp 18) (.tmp 22) 22 9 (.string ⟨#[]⟩) 16 rfl Tryd.underlying22 info9 rfl (by decide) (by omega) u149001 x149001_1 t154 [.string t154] (fun k_=>some k_ ≠ (.slice Ao20 y151.length co20:Value).ownBlock) (fun _=>False) rfl rfl ?aP (fun _ hk=>hk.elim) ?aF ?aO (Below.refl _ _) ?aS ?aL ?_
       (case aP=>exact rfl)
       (case aF=>exact (fun k_ hk=>Kd.fresh' (Kd.R_lt (by (with_reducible repeat (first|apply Kd.R_alloc|apply Kd.R_drewN|apply Kd.R_drew));exact HO153.out)) k_ hk))
       (case aO=>exact (by (with_reducible repeat (first|apply Kd.R_alloc|apply Kd.R_drewN|apply Kd.R_drew));exact Kd.R_mono HO_149001.out (fun _ hk=>hk.2)))
       (case aS=>exact (keep_size (w:=w) (g:=g) (row:=none) (by repeat (first|(with_reducible first|exact HK.out|apply KeepBut.set_|apply keep_drewN|apply keep_drew|apply keep_alloc|refine keep_far ?_ GW148.out _)|exact HK.out))))
       (case aL=>have:=LMc16.out;omega)
       intro v157 w22 ho hb hg hat
       rw [← Ny156.out] at ho
       have n0_:=Aside0.mk (blk_grown (g:=gb148) (o:=.cells #[.string (rdOf ByteArray.empty t142 t145),u149001, .bool false, .string (⟨#[]⟩:ByteArray)] 24 (0,0)) (by (with_reducible repeat (first|refine blk_drewN ?_ _|refine blk_drew ?_|refine blk_alloc ?_ _));exact BK148.out) hg (Kd.R_ne HO_149001.out BK148.out (by decide)))
       have n1_:=Aside0.mk (IsS55.grown (by repeat (first|(with_reducible first|exact HI0.out|apply IsS55.alloc|apply IsS55.drewN|apply IsS55.drew|apply IsS55.set_1|refine IsS55.far ?_ NB0_148.out _)|exact HI0.out)) hg (IsS55.own_ne HI0.out HO_149001.out (by decide)))
       have n2_:=Aside0.mk (Kd.R_after (ok:=(fun _=>True)) (by (with_reducible repeat (first|apply Kd.R_alloc|apply Kd.R_drewN|apply Kd.R_drew));exact HO153.out) hg hat)
       have n3_:=Aside0.mk (below_weaken (by repeat (first|(with_reducible first|exact HB.out|apply below_alloc|apply pw_below_drewN|apply below_drew1|refine below_set ?_ (IsS55.ge HI0.out)|refine below_set ?_ GE148.out)|exact HB.out)) HL.out hb)
       have n4_:=Aside0.mk (KeepBut.trans (by repeat (first|(with_reducible first|exact HK.out|apply KeepBut.set_|apply keep_drewN|apply keep_drew|apply keep_alloc|refine keep_far ?_ GW148.out _)|exact HK.out)) (KeepBut.of_grown hg g) (Kd.R_base2 HO_149001.out))
       have n5_:=Aside0.mk (ho)
       clear BK148
       clear HI0
       clear HO153
       clear HB
       clear HK
       clear HO_149001
       have BK148:=n0_
       have HI0:=n1_
       have HO153:=n2_
       have HB:=n3_
       have HK:=n4_
       have HO158:=n5_
       clear n0_ n1_ n2_ n3_ n4_ n5_
       clear ho hb hg hat
       obtain ⟨Ao23,co23,eo23⟩:=Kd.R_slice HO158.out
       (first|subst eo23|(injection eo23 with f1_ f2_ f3_;have f4_:=f1_.symm;have f5_:=f3_.symm;clear f1_ f2_ f3_;subst f4_;subst f5_))
       refine hK.out _ _ ⟨(blk_cell BK148.out 0).trans rfl,(blk_cell BK148.out 1).trans rfl,(blk_cell BK148.out 2).trans rfl,(blk_cell BK148.out 3).trans rfl⟩ (fun hHeld=>?_)
       clear hK K
       refine norm_ (a':=?_) ?_ ?_
       rotate_left
       ·show Act.put _ (some 23) _ = _
        simp only [Act.put,List.setIfInBounds_toArray,List.set_cons_zero,List.set_cons_succ,i64_w,i32_w]
        rfl
       refine pure_ (i:=7) (N:=some 24) (v:=?_) (a':=?_) #[true,true,true,true,true,true,true,true,false] rfl rfl (any_of HT_.out (by kernel_rfl)) (fun _ _ _ h=>h) (Or.inl ⟨by rfl,?_⟩) ?_ ?_
       rotate_left
       ·intro w'
        go_simp
        with_reducible rfl
       rotate_left
       ·simp only [Act.put,List.setIfInBounds_toArray,List.set_cons_zero,List.set_cons_succ,i64_w,i32_w]
        rfl
       refine last_ (i:=8) (N:=none) #[true,true,true,true,true,true,true,true,true] rfl rfl (one_of HT_.out (by kernel_rfl)) (by decide) (fun K hK=>?_)
       have hs24:w22.cell? ⟨gb148,1,none⟩ = some (u149001):=(blk_cell BK148.out 1).trans rfl
       have hfs24:=blk_frozen BK148.out 1
       refine skip_ (w1:=?_) (by rfl) rfl ?_ ?_
       rotate_left
       ·go_simp
        rfl
       refine hK.out _ _ ?_
       clear hK K
       refine done_ (done_of HT_.out (by kernel_rfl)) ?_
       try go_wp2
       go_roundg k1
       case measure=>have:=HK1.out;omega
       case rel=>exact ⟨(wrap64 (x4_1 - 1)),(t155),(y156),(.slice Ao23 y156.length co23),(by first|rfl|(simp;done)|(simp only [i64_w,i32_w];done)|(simp only [i64_w,i32_w];rfl)|(simp [*];done)|(simp [emp_bne,emp_beq];done)),H',⟨by have:=HK1.out;omega⟩,⟨by (with_reducible repeat (first|apply Kd.R_alloc|apply Kd.R_drewN|apply Kd.R_drew));exact Kd.R_mono (Kd.R_far (p:=⟨gb148,1,none⟩) (Kd.R_types HO158.out BK148.out (by decide)) (fun _ hk=>hk.2) (.slice Ao23 y156.length co23)) (fun _ hk=>trivial)⟩,⟨by (with_reducible repeat (first|refine blk_drewN ?_ _|refine blk_drew ?_|refine blk_alloc ?_ _));refine blk_put (cs:=#[.string (rdOf ByteArray.empty t142 t145),u149001, .bool false, .string (⟨#[]⟩:ByteArray)]) ?_ 1 _ rfl;(with_reducible repeat (first|refine blk_drewN ?_ _|refine blk_drew ?_|refine blk_alloc ?_ _));exact BK148.out⟩,⟨by repeat (first|(with_reducible first|exact HI0.out|apply IsS55.alloc|apply IsS55.drewN|apply IsS55.drew|apply IsS55.set_1|refine IsS55.far ?_ NB0_148.out _)|exact HI0.out)⟩,⟨by repeat (first|(with_reducible first|exact HK.out|apply KeepBut.set_|apply keep_drewN|apply keep_drew|apply keep_alloc|refine keep_far ?_ GW148.out _)|exact HK.out)⟩,⟨by repeat (first|(with_reducible first|exact HB.out|apply below_alloc|apply pw_below_drewN|apply below_drew1|refine below_set ?_ (IsS55.ge HI0.out)|refine below_set ?_ GE148.out)|exact HB.out)⟩⟩
      ·rw [if_neg c16] at H
       exact absurd H (by simp)
     ·rw [if_neg c14] at H
      have c14b0:decide (0 < x4_1) = false:=decide_eq_false c14
      clear c14
      replace H:=Option.bind_eq_some_iff.mp H
      obtain ⟨⟨t159,t160⟩,A250,H⟩:=H
      replace H:(if t159 = 0 then ((spec_l6Rd_of.f k1 s0_0 t160 (([(⟨#[]⟩:ByteArray),(⟨#[97]⟩:ByteArray),(⟨#[98,37,51,68]⟩:ByteArray)]:List ByteArray))).bind fun bt164=>((spec_AddrText.f k1 (rdOf ByteArray.empty t142 t145) x149001_1 true bt164.1).bind fun t166=>(some (t166,bt164.2)))) else ((spec_AddrText.f k1 (rdOf ByteArray.empty t142 t145) x149001_1 false (⟨#[]⟩:ByteArray)).bind fun t167=>(some (t167,t160)))) = some (r1,r2):=H
      have A25:=Aside0.mk A250
      clear A250
      by_cases c26:t159 = 0
      ·rw [if_pos c26] at H
       have c26b0:(t159 == 0) = true:=beq_iff_eq.mpr c26
       have c26b1:(t159 != 0) = false:=bne_eq_false_iff_eq.mpr c26
       clear c26
       obtain ⟨y161,hy161⟩:∃ y_:List ByteArray,y_ = (([(⟨#[]⟩:ByteArray),(⟨#[97]⟩:ByteArray),(⟨#[98,37,51,68]⟩:ByteArray)]:List ByteArray)):=⟨_,rfl⟩
       replace H:((spec_l6Rd_of.f k1 s0_0 t160 y161).bind fun bt164=>((spec_AddrText.f k1 (rdOf ByteArray.empty t142 t145) x149001_1 true bt164.1).bind fun t166=>(some (t166,bt164.2)))) = some (r1,r2):=by first|(rw [hy161];with_reducible exact H)|(have H2_:=(Option.bind_some _ _).symm.trans H;rw [hy161];with_reducible exact H2_)|(have H2_:=(Option.bind_some _ _).symm.trans H;with_reducible exact H2_)|with_reducible exact H|(rw [hy161];exact H)|exact H
       have Ny161:=Aside0.mk hy161
       clear hy161
       replace H:=Option.bind_eq_some_iff.mp H
       obtain ⟨⟨t164,t165⟩,A270,H⟩:=H
       replace H:((spec_AddrText.f k1 (rdOf ByteArray.empty t142 t145) x149001_1 true t164).bind fun t166=>(some (t166,t165))) = some (r1,r2):=H
       have A27:=Aside0.mk A270
       clear A270
       replace H:=Option.bind_eq_some_iff.mp H
       obtain ⟨t166,A280,H⟩:=H
       replace H:(some (t166,t165)) = some (r1,r2):=H
       have A28:=Aside0.mk A280
       clear A280
       simp only [Option.some.injEq,Prod.mk.injEq] at H
       obtain ⟨rfl,rfl⟩:=H
       go_wp2_with (first|((with_reducible refine gate_callee (f:=32) rfl ?_);refine goesL_ (some 26) rfl rfl Tryd.func32 (by kernel_rfl) rfl #[.pointer (some ⟨g,0,none⟩), .int .i64 8] rfl (by (try simp only [List.map_toArray,List.map_cons,List.map_nil]);first|done|rfl|(simp only [List.length_drop,List.length_take];rfl)) ?_;(with_reducible refine (spec_l6Rd_pick.calls k1 g s0_0 x1001_1 8 t159 t160 w0 _ ?side1 ?side2 A25.out).mono ?_);(case side1=>repeat (first|(with_reducible first|exact HI0.out|apply IsS55.alloc|apply IsS55.drewN|apply IsS55.drew|apply IsS55.set_1|refine IsS55.far ?_ NB0_148.out _)|exact HI0.out));(case side2=>repeat (first|(with_reducible first|exact HB.out|apply below_alloc|apply pw_below_drewN|apply below_drew1|refine below_set ?_ (IsS55.ge HI0.out)|refine below_set ?_ GE148.out)|exact HB.out));rintro e w29 ⟨rfl,hi,hb,hk⟩;refine ⟨_,rfl,?_⟩;have n0_:=Aside0.mk (Kd.R_mono (Kd.R_keep (IsS55.apart (show IsS55 w0 _ g s0_0 x1001_1 from by repeat (first|(with_reducible first|exact HI0.out|apply IsS55.alloc|apply IsS55.drewN|apply IsS55.drew|apply IsS55.set_1|refine IsS55.far ?_ NB0_148.out _)|exact HI0.out)) (by (with_reducible repeat (first|apply Kd.R_alloc|apply Kd.R_drewN|apply Kd.R_drew));exact HO_149001.out) (by decide)) hk (fun _ h=>h.2)) (fun _ h=>h.1));have n1_:=Aside0.mk (KeepBut.blk hk (g':=gb148) (o:=.cells #[.string (rdOf ByteArray.empty t142 t145),u149001, .bool false, .string (⟨#[]⟩:ByteArray)] 24 (0,0)) (by (with_reducible repeat (first|refine blk_drewN ?_ _|refine blk_drew ?_|refine blk_alloc ?_ _));exact BK148.out) NB148_0.out (by simp));have n2_:=Aside0.mk (KeepBut.trans (by repeat (first|(with_reducible first|exact HK.out|apply KeepBut.set_|apply keep_drewN|apply keep_drew|apply keep_alloc|refine keep_far ?_ GW148.out _)|exact HK.out)) hk (.inl rfl));have n3_:=Aside0.mk (hb);have n4_:=Aside0.mk (hi);clear HO_149001;clear BK148;clear HK;clear HB;clear HI0;have HO_149001:=n0_;have BK148:=n1_;have HK:=n2_;have HB:=n3_;have HI0:=n4_;clear n0_ n1_ n2_ n3_ n4_;(try clear hb);(try clear hb2);(try clear hk);(try clear hi);have hnb30:=NB148_0.out;have hnc30:=NB0_148.out;have hcz31_0:w29.cell? ⟨gb148,0,none⟩ = some (.string (rdOf ByteArray.empty t142 t145)):=(blk_cell BK148.out 0).trans rfl;have hcz31_1:w29.cell? ⟨gb148,1,none⟩ = some (u149001):=(blk_cell BK148.out 1).trans rfl;have hcz31_2:w29.cell? ⟨gb148,2,none⟩ = some (.bool false):=(blk_cell BK148.out 2).trans rfl;have hcz31_3:w29.cell? ⟨gb148,3,none⟩ = some (.string (⟨#[]⟩:ByteArray)):=(blk_cell BK148.out 3).trans rfl;have hfz31_0:=blk_frozen BK148.out 0;have hfz31_1:=blk_frozen BK148.out 1;have hfz31_2:=blk_frozen BK148.out 2;have hfz31_3:=blk_frozen BK148.out 3)|((with_reducible refine gate_dst (N:=30) rfl ?_);refine Kd.R_lit Kd.string _ 9 ?hg (N:=30) ?hd (xs:=([(⟨#[]⟩:ByteArray),(⟨#[97]⟩:ByteArray),(⟨#[98,37,51,68]⟩:ByteArray)]:List ByteArray)) (inner:=[.string (⟨#[]⟩:ByteArray), .string (⟨#[97]⟩:ByteArray), .string (⟨#[98,37,51,68]⟩:ByteArray)]) (ok:=fun _=>True) (okp:=fun _=>True) ?hr ?hp (fun _ hk=>hk) trivial (Below.refl _ _) (Nat.le_refl _) (by simp) ?_;(case hd=>rfl);(case hg=>rfl);(case hr=>first|(go_simp;done)|(go_simp;rfl));(case hp=>exact (Reps.one (show Kd.M Kd.string _ _ _ (⟨#[]⟩:ByteArray) [.string (⟨#[]⟩:ByteArray)] from rfl) (Reps.one (show Kd.M Kd.string _ _ _ (⟨#[97]⟩:ByteArray) [.string (⟨#[97]⟩:ByteArray)] from rfl) (Reps.one (show Kd.M Kd.string _ _ _ (⟨#[98,37,51,68]⟩:ByteArray) [.string (⟨#[98,37,51,68]⟩:ByteArray)] from rfl) (Reps.none _ _)))));intro v162 w32 ho33 hb hg_ hnew_;clear hg_ hnew_;(first|rw [← Ny161.out] at ho33|(simp only [Int.reduceToNat] at ho33;rw [← Ny161.out] at ho33));have n0_:=Aside0.mk (Kd.R_elder' (by (with_reducible repeat (first|apply Kd.R_alloc|apply Kd.R_drewN|apply Kd.R_drew));exact (Kd.R_mono (Kd.R_far (p:=⟨gb148,2,none⟩) (Kd.R_types HO_149001.out BK148.out (by decide)) (fun _ hk=>hk.2) (.bool true)) (fun _ h_=>h_.1))) (Kd.R_base ho33) hb);have n1_:=Aside0.mk (Kd.R_lower (Kd.R_new' ho33 (Kd.R_lt (by (with_reducible repeat (first|apply Kd.R_alloc|apply Kd.R_drewN|apply Kd.R_drew));exact (Kd.R_mono (Kd.R_far (p:=⟨gb148,2,none⟩) (Kd.R_types HO_149001.out BK148.out (by decide)) (fun _ hk=>hk.2) (.bool true)) (fun _ h_=>h_.1))))) (keep_size (w:=w) (g:=g) (row:=none) (by repeat (first|(with_reducible first|exact HK.out|apply KeepBut.set_|apply keep_drewN|apply keep_drew|apply keep_alloc|refine keep_far ?_ GW148.out _)|exact HK.out))));have n2_:=Aside0.mk (blk_below (g:=gb148) (o:=.cells #[.string (rdOf ByteArray.empty t142 t145),u149001, .bool true, .string (⟨#[]⟩:ByteArray)] 24 (0,0)) (by (with_reducible repeat (first|refine blk_drewN ?_ _|refine blk_drew ?_|refine blk_alloc ?_ _));refine blk_put (cs:=#[.string (rdOf ByteArray.empty t142 t145),u149001, .bool false, .string (⟨#[]⟩:ByteArray)]) ?_ 2 _ rfl;(with_reducible repeat (first|refine blk_drewN ?_ _|refine blk_drew ?_|refine blk_alloc ?_ _));exact BK148.out) hb);have n3_:=Aside0.mk (IsS55.below (show IsS55 w0 (w29.setCell ⟨gb148,2,none⟩ (.bool true)) g s0_0 t160 from by repeat (first|(with_reducible first|exact HI0.out|apply IsS55.alloc|apply IsS55.drewN|apply IsS55.drew|apply IsS55.set_1|refine IsS55.far ?_ NB0_148.out _)|exact HI0.out)) hb);have n4_:=Aside0.mk (KeepBut.trans (by repeat (first|(with_reducible first|exact HK.out|apply KeepBut.set_|apply keep_drewN|apply keep_drew|apply keep_alloc|refine keep_far ?_ GW148.out _)|exact HK.out)) (KeepBut.of_below hb g none) (.inl rfl));have n5_:=Aside0.mk (below_step (by repeat (first|(with_reducible first|exact HB.out|apply below_alloc|apply pw_below_drewN|apply below_drew1|refine below_set ?_ (IsS55.ge HI0.out)|refine below_set ?_ GE148.out)|exact HB.out)) hb);clear HO_149001;clear BK148;clear HI0;clear HK;clear HB;have HO_149001:=n0_;have HO163:=n1_;have BK148:=n2_;have HI0:=n3_;have HK:=n4_;have HB:=n5_;clear n0_ n1_ n2_ n3_ n4_ n5_;clear hb ho33;obtain ⟨Ao34,co34,eo34⟩:=Kd.R_slice HO163.out;subst eo34)|((with_reducible refine gate_callee (f:=34) rfl ?_);refine goesL_ (some 31) rfl rfl Tryd.func34 (by kernel_rfl) rfl #[.pointer (some ⟨g,0,none⟩), .slice Ao34 y161.length co34] rfl (by (try simp only [List.map_toArray,List.map_cons,List.map_nil]);first|done|rfl|(simp only [List.length_drop,List.length_take];rfl)) ?_;(with_reducible refine (spec_l6Rd_of.calls k1 g s0_0 t160 _ _ y161 t164 t165 w0 _ ?side1 ?side2 ?side3 ?side4 ?side5 A27.out).mono ?_);(case side1=>repeat (first|(with_reducible first|exact HI0.out|apply IsS55.alloc|apply IsS55.drewN|apply IsS55.drew|apply IsS55.set_1|refine IsS55.far ?_ NB0_148.out _)|exact HI0.out));(case side2=>repeat (first|(with_reducible first|exact HB.out|apply below_alloc|apply pw_below_drewN|apply below_drew1|refine below_set ?_ (IsS55.ge HI0.out)|refine below_set ?_ GE148.out)|exact HB.out));(case side3=>repeat (first|exact (Kd.R_reads' HO163.out).2.2|(with_reducible refine Kd.C_alloc ?_ _)|(with_reducible refine Kd.C_drewN ?_ _)|(with_reducible refine Kd.C_drew ?_)));(case side4=>exact (Kd.R_reads' HO163.out).2.1);(case side5=>exact far_slice (IsS55.own_ne HI0.out HO163.out (by decide)));rintro e w35 ⟨rfl,hi,hb,hk⟩;refine ⟨_,rfl,?_⟩;have n0_:=Aside0.mk (Kd.R_mono (Kd.R_keep (IsS55.apart (show IsS55 w0 _ g s0_0 t160 from by repeat (first|(with_reducible first|exact HI0.out|apply IsS55.alloc|apply IsS55.drewN|apply IsS55.drew|apply IsS55.set_1|refine IsS55.far ?_ NB0_148.out _)|exact HI0.out)) (by (with_reducible repeat (first|apply Kd.R_alloc|apply Kd.R_drewN|apply Kd.R_drew));exact HO_149001.out) (by decide)) hk (fun _ h=>h.2)) (fun _ h=>h.1));have n1_:=Aside0.mk (KeepBut.blk hk (g':=gb148) (o:=.cells #[.string (rdOf ByteArray.empty t142 t145),u149001, .bool true, .string (⟨#[]⟩:ByteArray)] 24 (0,0)) (by (with_reducible repeat (first|refine blk_drewN ?_ _|refine blk_drew ?_|refine blk_alloc ?_ _));exact BK148.out) NB148_0.out (by simp));have n2_:=Aside0.mk (Kd.R_mono (Kd.R_keep (IsS55.apart (show IsS55 w0 _ g s0_0 t160 from by repeat (first|(with_reducible first|exact HI0.out|apply IsS55.alloc|apply IsS55.drewN|apply IsS55.drew|apply IsS55.set_1|refine IsS55.far ?_ NB0_148.out _)|exact HI0.out)) (by (with_reducible repeat (first|apply Kd.R_alloc|apply Kd.R_drewN|apply Kd.R_drew));exact HO163.out) (by decide)) hk (fun _ h=>h.2)) (fun _ h=>h.1));have n3_:=Aside0.mk (KeepBut.trans (by repeat (first|(with_reducible first|exact HK.out|apply KeepBut.set_|apply keep_drewN|apply keep_drew|apply keep_alloc|refine keep_far ?_ GW148.out _)|exact HK.out)) hk (.inl rfl));have n4_:=Aside0.mk (hb);have n5_:=Aside0.mk (hi);clear HO_149001;clear BK148;clear HO163;clear HK;clear HB;clear HI0;have HO_149001:=n0_;have BK148:=n1_;have HO163:=n2_;have HK:=n3_;have HB:=n4_;have HI0:=n5_;clear n0_ n1_ n2_ n3_ n4_ n5_;(try clear hb);(try clear hb2);(try clear hk);(try clear hi);have hcz36_0:w35.cell? ⟨gb148,0,none⟩ = some (.string (rdOf ByteArray.empty t142 t145)):=(blk_cell BK148.out 0).trans rfl;have hcz36_1:w35.cell? ⟨gb148,1,none⟩ = some (u149001):=(blk_cell BK148.out 1).trans rfl;have hcz36_2:w35.cell? ⟨gb148,2,none⟩ = some (.bool true):=(blk_cell BK148.out 2).trans rfl;have hcz36_3:w35.cell? ⟨gb148,3,none⟩ = some (.string (⟨#[]⟩:ByteArray)):=(blk_cell BK148.out 3).trans rfl;have hfz36_0:=blk_frozen BK148.out 0;have hfz36_1:=blk_frozen BK148.out 1;have hfz36_2:=blk_frozen BK148.out 2;have hfz36_3:=blk_frozen BK148.out 3;obtain ⟨Ao37,co37,eo37⟩:=Kd.R_slice HO_149001.out;subst eo37)|((with_reducible refine gate_callee (f:=15) rfl ?_);refine goesL_ (some 34) rfl rfl Tryd.func15 (by kernel_rfl) rfl #[.agg #[.string (rdOf ByteArray.empty t142 t145), .slice Ao37 x149001_1.length co37, .bool true, .string t164]] rfl (by (try simp only [List.map_toArray,List.map_cons,List.map_nil]);first|done|rfl|(simp only [List.length_drop,List.length_take];rfl)) ?_;(with_reducible refine (spec_AddrText.calls k1 (rdOf ByteArray.empty t142 t145) _ _ x149001_1 true t164 t166 _ ?side1 ?side2 A28.out).mono ?_);(case side1=>refine (Kd.R_reads' (e:=9) (base:=w.heap.size) (ok:=fun k_=>(True ∧ some k_ ≠ (.slice Ao34 y161.length co34:Value).ownBlock)) (n:=x149001_1.length) (c:=co37) ?_).2.2;exact (by (with_reducible repeat (first|apply Kd.R_alloc|apply Kd.R_drewN|apply Kd.R_drew));exact (Kd.R_mono (Kd.R_far (p:=⟨gb148,3,none⟩) (Kd.R_types HO_149001.out BK148.out (by decide)) (fun _ hk=>hk.2) (.string t164)) (fun _ h_=>h_.1))));(case side2=>exact (Kd.R_reads' HO_149001.out).2.1);rintro e w38 ⟨rfl,hb⟩;refine ⟨_,rfl,?_⟩;have n0_:=Aside0.mk (Kd.R_below (by (with_reducible repeat (first|apply Kd.R_alloc|apply Kd.R_drewN|apply Kd.R_drew));exact (Kd.R_mono (Kd.R_far (p:=⟨gb148,3,none⟩) (Kd.R_types HO_149001.out BK148.out (by decide)) (fun _ hk=>hk.2) (.string t164)) (fun _ h_=>h_.1))) hb);have n1_:=Aside0.mk (Kd.R_below (by (with_reducible repeat (first|apply Kd.R_alloc|apply Kd.R_drewN|apply Kd.R_drew));exact (Kd.R_mono (Kd.R_far (p:=⟨gb148,3,none⟩) (Kd.R_types HO163.out BK148.out (by decide)) (fun _ hk=>hk.2) (.string t164)) (fun _ h_=>h_.1))) hb);have n2_:=Aside0.mk (blk_below (g:=gb148) (o:=.cells #[.string (rdOf ByteArray.empty t142 t145), .slice Ao37 x149001_1.length co37, .bool true, .string t164] 24 (0,0)) (by (with_reducible repeat (first|refine blk_drewN ?_ _|refine blk_drew ?_|refine blk_alloc ?_ _));refine blk_put (cs:=#[.string (rdOf ByteArray.empty t142 t145), .slice Ao37 x149001_1.length co37, .bool true, .string (⟨#[]⟩:ByteArray)]) ?_ 3 _ rfl;(with_reducible repeat (first|refine blk_drewN ?_ _|refine blk_drew ?_|refine blk_alloc ?_ _));exact BK148.out) hb);have n3_:=Aside0.mk (IsS55.below (show IsS55 w0 (w35.setCell ⟨gb148,3,none⟩ (.string t164)) g s0_0 t165 from by repeat (first|(with_reducible first|exact HI0.out|apply IsS55.alloc|apply IsS55.drewN|apply IsS55.drew|apply IsS55.set_1|refine IsS55.far ?_ NB0_148.out _)|exact HI0.out)) hb);have n4_:=Aside0.mk (KeepBut.trans (by repeat (first|(with_reducible first|exact HK.out|apply KeepBut.set_|apply keep_drewN|apply keep_drew|apply keep_alloc|refine keep_far ?_ GW148.out _)|exact HK.out)) (KeepBut.of_below hb g none) (.inl rfl));have n5_:=Aside0.mk (below_step (by repeat (first|(with_reducible first|exact HB.out|apply below_alloc|apply pw_below_drewN|apply below_drew1|refine below_set ?_ (IsS55.ge HI0.out)|refine below_set ?_ GE148.out)|exact HB.out)) hb);clear HO_149001;clear HO163;clear BK148;clear HI0;clear HK;clear HB;have HO_149001:=n0_;have HO163:=n1_;have BK148:=n2_;have HI0:=n3_;have HK:=n4_;have HB:=n5_;clear n0_ n1_ n2_ n3_ n4_ n5_;(try clear hb);(try clear hb2);(try clear hk);(try clear hi)))
       go_ret
       exact ⟨by first|rfl|(simp <;> rfl)|(simp [*] <;> rfl),by repeat (first|(with_reducible first|exact HI0.out|apply IsS55.alloc|apply IsS55.drewN|apply IsS55.drew|apply IsS55.set_1|refine IsS55.far ?_ NB0_148.out _)|exact HI0.out),by repeat (first|(with_reducible first|exact HB.out|apply below_alloc|apply pw_below_drewN|apply below_drew1|refine below_set ?_ (IsS55.ge HI0.out)|refine below_set ?_ GE148.out)|exact HB.out),by repeat (first|(with_reducible first|exact HK.out|apply KeepBut.set_|apply keep_drewN|apply keep_drew|apply keep_alloc|refine keep_far ?_ GW148.out _)|exact HK.out)⟩
      ·rw [if_neg c26] at H
       have c26b0:(t159 == 0) = false:=beq_eq_false_iff_ne.mpr c26
       have c26b1:(t159 != 0) = true:=bne_iff_ne.mpr c26
       replace H:=Option.bind_eq_some_iff.mp H
       obtain ⟨t167,A390,H⟩:=H
       replace H:(some (t167,t160)) = some (r1,r2):=H
       have A39:=Aside0.mk A390
       clear A390
       simp only [Option.some.injEq,Prod.mk.injEq] at H
       obtain ⟨rfl,rfl⟩:=H
       go_wp2_with (first|((with_reducible refine gate_callee (f:=32) rfl ?_);refine goesL_ (some 26) rfl rfl Tryd.func32 (by kernel_rfl) rfl #[.pointer (some ⟨g,0,none⟩), .int .i64 8] rfl (by (try simp only [List.map_toArray,List.map_cons,List.map_nil]);first|done|rfl|(simp only [List.length_drop,List.length_take];rfl)) ?_;(with_reducible refine (spec_l6Rd_pick.calls k1 g s0_0 x1001_1 8 t159 t160 w0 _ ?side1 ?side2 A25.out).mono ?_);(case side1=>repeat (first|(with_reducible first|exact HI0.out|apply IsS55.alloc|apply IsS55.drewN|apply IsS55.drew|apply IsS55.set_1|refine IsS55.far ?_ NB0_148.out _)|exact HI0.out));(case side2=>repeat (first|(with_reducible first|exact HB.out|apply below_alloc|apply pw_below_drewN|apply below_drew1|refine below_set ?_ (IsS55.ge HI0.out)|refine below_set ?_ GE148.out)|exact HB.out));rintro e w40 ⟨rfl,hi,hb,hk⟩;refine ⟨_,rfl,?_⟩;have n0_:=Aside0.mk (Kd.R_mono (Kd.R_keep (IsS55.apart (show IsS55 w0 _ g s0_0 x1001_1 from by repeat (first|(with_reducible first|exact HI0.out|apply IsS55.alloc|apply IsS55.drewN|apply IsS55.drew|apply IsS55.set_1|refine IsS55.far ?_ NB0_148.out _)|exact HI0.out)) (by (with_reducible repeat (first|apply Kd.R_alloc|apply Kd.R_drewN|apply Kd.R_drew));exact HO_149001.out) (by decide)) hk (fun _ h=>h.2)) (fun _ h=>h.1));have n1_:=Aside0.mk (KeepBut.blk hk (g':=gb148) (o:=.cells #[.string (rdOf ByteArray.empty t142 t145),u149001, .bool false, .string (⟨#[]⟩:ByteArray)] 24 (0,0)) (by (with_reducible repeat (first|refine blk_drewN ?_ _|refine blk_drew ?_|refine blk_alloc ?_ _));exact BK148.out) NB148_0.out (by simp));have n2_:=Aside0.mk (KeepBut.trans (by repeat (first|(with_reducible first|exact HK.out|apply KeepBut.set_|apply keep_drewN|apply keep_drew|apply keep_alloc|refine keep_far ?_ GW148.out _)|exact HK.out)) hk (.inl rfl));have n3_:=Aside0.mk (hb);have n4_:=Aside0.mk (hi);clear HO_149001;clear BK148;clear HK;clear HB;clear HI0;have HO_149001:=n0_;have BK148:=n1_;have HK:=n2_;have HB:=n3_;have HI0:=n4_;clear n0_ n1_ n2_ n3_ n4_;(try clear hb);(try clear hb2);(try clear hk);(try clear hi);have hnb41:=NB148_0.out;have hnc41:=NB0_148.out;have hcz42_0:w40.cell? ⟨gb148,0,none⟩ = some (.string (rdOf ByteArray.empty t142 t145)):=(blk_cell BK148.out 0).trans rfl;have hcz42_1:w40.cell? ⟨gb148,1,none⟩ = some (u149001):=(blk_cell BK148.out 1).trans rfl;have hcz42_2:w40.cell? ⟨gb148,2,none⟩ = some (.bool false):=(blk_cell BK148.out 2).trans rfl;have hcz42_3:w40.cell? ⟨gb148,3,none⟩ = some (.string (⟨#[]⟩:ByteArray)):=(blk_cell BK148.out 3).trans rfl;have hfz42_0:=blk_frozen BK148.out 0;have hfz42_1:=blk_frozen BK148.out 1;have hfz42_2:=blk_frozen BK148.out 2;have hfz42_3:=blk_frozen BK148.out 3;obtain ⟨Ao43,co43,eo43⟩:=Kd.R_slice HO_149001.out;subst eo43)|((with_reducible refine gate_callee (f:=15) rfl ?_);refine goesL_ (some 34) rfl rfl Tryd.func15 (by kernel_rfl) rfl #[.agg #[.string (rdOf ByteArray.empty t142 t145), .slice Ao43 x149001_1.length co43, .bool false, .string (⟨#[]⟩:ByteArray)]] rfl (by (try simp only [List.map_toArray,List.map_cons,List.map_nil]);first|done|rfl|(simp only [List.length_drop,List.length_take];rfl)) ?_;(with_reducible refine (spec_AddrText.calls k1 (rdOf ByteArray.empty t142 t145) _ _ x149001_1 false (⟨#[]⟩:ByteArray) t167 _ ?side1 ?side2 A39.out).mono ?_);(case side1=>repeat (first|exact (Kd.R_reads' HO_149001.out).2.2|(with_reducible refine Kd.C_alloc ?_ _)|(with_reducible refine Kd.C_drewN ?_ _)|(with_reducible refine Kd.C_drew ?_)));(case side2=>exact (Kd.R_reads' HO_149001.out).2.1);rintro e w44 ⟨rfl,hb⟩;refine ⟨_,rfl,?_⟩;have n0_:=Aside0.mk (Kd.R_below (by (with_reducible repeat (first|apply Kd.R_alloc|apply Kd.R_drewN|apply Kd.R_drew));exact HO_149001.out) hb);have n1_:=Aside0.mk (blk_below (g:=gb148) (o:=.cells #[.string (rdOf ByteArray.empty t142 t145), .slice Ao43 x149001_1.length co43, .bool false, .string (⟨#[]⟩:ByteArray)] 24 (0,0)) (by (with_reducible repeat (first|refine blk_drewN ?_ _|refine blk_drew ?_|refine blk_alloc ?_ _));exact BK148.out) hb);have n2_:=Aside0.mk (IsS55.below (by repeat (first|(with_reducible first|exact HI0.out|apply IsS55.alloc|apply IsS55.drewN|apply IsS55.drew|apply IsS55.set_1|refine IsS55.far ?_ NB0_148.out _)|exact HI0.out)) hb);have n3_:=Aside0.mk (KeepBut.trans (by repeat (first|(with_reducible first|exact HK.out|apply KeepBut.set_|apply keep_drewN|apply keep_drew|apply keep_alloc|refine keep_far ?_ GW148.out _)|exact HK.out)) (KeepBut.of_below hb g none) (.inl rfl));have n4_:=Aside0.mk (below_step (by repeat (first|(with_reducible first|exact HB.out|apply below_alloc|apply pw_below_drewN|apply below_drew1|refine below_set ?_ (IsS55.ge HI0.out)|refine below_set ?_ GE148.out)|exact HB.out)) hb);clear HO_149001;clear BK148;clear HI0;clear HK;clear HB;have HO_149001:=n0_;have BK148:=n1_;have HI0:=n2_;have HK:=n3_;have HB:=n4_;clear n0_ n1_ n2_ n3_ n4_;(try clear hb);(try clear hb2);(try clear hk);(try clear hi)))
       go_ret
       exact ⟨by first|rfl|(simp <;> rfl)|(simp [*] <;> rfl),by repeat (first|(with_reducible first|exact HI0.out|apply IsS55.alloc|apply IsS55.drewN|apply IsS55.drew|apply IsS55.set_1|refine IsS55.far ?_ NB0_148.out _)|exact HI0.out),by repeat (first|(with_reducible first|exact HB.out|apply below_alloc|apply pw_below_drewN|apply below_drew1|refine below_set ?_ (IsS55.ge HI0.out)|refine below_set ?_ GE148.out)|exact HB.out),by repeat (first|(with_reducible first|exact HK.out|apply KeepBut.set_|apply keep_drewN|apply keep_drew|apply keep_alloc|refine keep_far ?_ GW148.out _)|exact HK.out)⟩
  ·rw [if_neg c5] at H
   exact absurd H (by simp)
 ·rw [if_neg c4] at H
  exact absurd H (by simp)

end Go.Proofs.YtochmlkladpfgaaDoor.P
