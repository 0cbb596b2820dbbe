-- Written by a program of this session (patch_print.py over the kit's print; given texts in wip/given).
-- Cut down by a program of this session (wip/tools/prune.py) to what its claim can name.
import Derived.Test.YtheakfegchndcaaPx0
import Derived.Test.YtheakfegchndcaaPx2
namespace Go.Proofs.Ytheakfegchndcaa.P
open Go.RowKit Go.Proofs.YtheakfegchndcaaW.PrintWords Go.Proofs.YtheakfegchndcaaW.PrintLast Go.Proofs.YtheakfegchndcaaW.PrintMore
attribute [local go_sem] max2_int min2_int max_two min_two max_three min_three max_four min_four   -- for this text's walks alone
set_option linter.unusedVariables false
set_option linter.unusedSimpArgs false
set_option maxHeartbeats 8000000
set_option maxRecDepth 100000

/-! ### spec_l6Open: function 28 -/
def spec_l6Open.f (l0:List Int):Option (List Int × Int):=if (l0.length:Int) > 2000 then (if 2000 ≤ (l0.length:Int) then (some (l0.take 2000,0)) else (none)) else (some (l0,0))
theorem spec_l6Open.calls (A0:Option Addr) (c0:Nat) (l0:List Int) (r1:List Int) (r2:Int) (w0 w:World) (hB:Below w0.heap.size w0 w) (hr0:Kd.C (Kd.int .u8) w0 A0 l0.length l0) (hc0:l0.length ≤ c0) (h:spec_l6Open.f l0 = some (r1,r2)) :
  Calls Try.prog 28 #[.slice A0 l0.length c0] w fun e w'=>∃ g_:Nat,e = .returned (.pointer (some ⟨g_,0,none⟩)) ∧ IsS70 w0 w' g_ r1 r2 ∧ Below w0.heap.size w0 w' ∧ Below w.heap.size w w':=by
 have hu70:=Try.underlying70
 have HR0:=Aside0.mk hr0
 have HC0:=Aside0.mk hc0
 clear hr0 hc0
 have HBW:=Aside0.mk (Below.refl w.heap.size w)
 have HW0:=Aside0.mk hB.size
 have HB:=Aside0.mk hB
 clear hB
 have H:(if (l0.length:Int) > 2000 then (if 2000 ≤ (l0.length:Int) then (some (l0.take 2000,0)) else (none)) else (some (l0,0))) = some (r1,r2):=h
 clear h
 by_cases c2:(l0.length:Int) > 2000
 ·rw [if_pos c2] at H
  have c2b0:decide (2000 < (l0.length:Int)) = true:=decide_eq_true c2
  have c2b1:decide (2000 < l0.length) = true:=decide_eq_true (by omega)
  clear c2
  by_cases c3:2000 ≤ (l0.length:Int)
  ·rw [if_pos c3] at H
   have c3b0:=eq_true c3
   have c3b1:=decide_eq_true c3
   clear c3
   simp only [Option.some.injEq,Prod.mk.injEq] at H
   obtain ⟨rfl,rfl⟩:=H
   obtain ⟨i04,hi04,_,hsz4,_⟩:=info_parts info5
   obtain ⟨hcut4,hA4,hC4⟩:=print_take_of (P:=Try.prog) (Value.int .u8) 0 23 5 .i64 Try.underlying23 hi04 hsz4 A0 c0 l0 2000 (by omega) (of_decide_eq_true (by first|(with_reducible assumption)|assumption)) HC0.out
   have HR252:=Aside0.mk (Kd.C_of_reads (h1:=fun _=>rfl) (hA4 _ (Kd.reads_of_C HR0.out)))
   have HC252:=Aside0.mk hC4
   clear hA4 hC4 hi04 hsz4
   go_enter Try.func28,Try.ntmps28
   go_wp2_with (first|((with_reducible refine gate_dst (N:=10) rfl ?_);refine box_event ?hg (N:=10) ?hd (cs:=#[.slice A0 (l0.take 2000).length c0, .int .i64 0]) (t:=70) ?hr ?_;(case hd=>rfl);(case hg=>rfl);(case hr=>first|(go_simp;done)|(go_simp;rfl));intro gb253 hg w5 hbox hb;have n0_:=Aside0.mk (below_step HBW.out hb);have n1_:=Aside0.mk (below_step (by repeat (first|(with_reducible first|exact HB.out|apply below_alloc|apply pw_below_drewN|apply below_drew1)|exact HB.out)) hb);have n2_:=Aside0.mk (hbox);have n3_:=Aside0.mk ((by rw [hg];exact (below_size (by repeat (first|(with_reducible first|exact HBW.out|apply below_alloc|apply pw_below_drewN|apply below_drew1)|exact HBW.out))):w.heap.size ≤ gb253));have n4_:=Aside0.mk ((Nat.le_trans HW0.out (by rw [hg];exact (below_size (by repeat (first|(with_reducible first|exact HBW.out|apply below_alloc|apply pw_below_drewN|apply below_drew1)|exact HBW.out))):w.heap.size ≤ gb253):w0.heap.size ≤ gb253));clear HBW;clear HB;have HBW:=n0_;have HB:=n1_;have BK253:=n2_;have GW253:=n3_;have GE253:=n4_;clear n0_ n1_ n2_ n3_ n4_;clear hb hbox hg))
   go_ret
   exact ⟨_,rfl,(show IsS70 w0 _ gb253 (l0.take 2000) 0 from ⟨_,_,by (with_reducible repeat (first|refine blk_drewN ?_ _|refine blk_drew ?_|refine blk_alloc ?_ _));exact BK253.out,GE253.out,HR252.out⟩),by repeat (first|(with_reducible first|exact HB.out|apply below_alloc|apply pw_below_drewN|apply below_drew1|refine below_set ?_ GE253.out)|exact HB.out),by repeat (first|(with_reducible first|exact HBW.out|apply below_alloc|apply pw_below_drewN|apply below_drew1|refine below_set ?_ GW253.out)|exact HBW.out)⟩
  ·rw [if_neg c3] at H
   exact absurd H (by simp)
 ·rw [if_neg c2] at H
  have c2b0:decide (2000 < (l0.length:Int)) = false:=decide_eq_false c2
  have c2b1:decide (2000 < l0.length) = false:=decide_eq_false (by omega)
  clear c2
  simp only [Option.some.injEq,Prod.mk.injEq] at H
  obtain ⟨rfl,rfl⟩:=H
  go_enter Try.func28,Try.ntmps28
  go_wp2_with (first|((with_reducible refine gate_dst (N:=10) rfl ?_);refine box_event ?hg (N:=10) ?hd (cs:=#[.slice A0 l0.length c0, .int .i64 0]) (t:=70) ?hr ?_;(case hd=>rfl);(case hg=>rfl);(case hr=>first|(go_simp;done)|(go_simp;rfl));intro gb254 hg w6 hbox hb;have n0_:=Aside0.mk (below_step HBW.out hb);have n1_:=Aside0.mk (below_step (by repeat (first|(with_reducible first|exact HB.out|apply below_alloc|apply pw_below_drewN|apply below_drew1)|exact HB.out)) hb);have n2_:=Aside0.mk (hbox);have n3_:=Aside0.mk ((by rw [hg];exact (below_size (by repeat (first|(with_reducible first|exact HBW.out|apply below_alloc|apply pw_below_drewN|apply below_drew1)|exact HBW.out))):w.heap.size ≤ gb254));have n4_:=Aside0.mk ((Nat.le_trans HW0.out (by rw [hg];exact (below_size (by repeat (first|(with_reducible first|exact HBW.out|apply below_alloc|apply pw_below_drewN|apply below_drew1)|exact HBW.out))):w.heap.size ≤ gb254):w0.heap.size ≤ gb254));clear HBW;clear HB;have HBW:=n0_;have HB:=n1_;have BK254:=n2_;have GW254:=n3_;have GE254:=n4_;clear n0_ n1_ n2_ n3_ n4_;clear hb hbox hg))
  go_ret
  exact ⟨_,rfl,(show IsS70 w0 _ gb254 l0 0 from ⟨_,_,by (with_reducible repeat (first|refine blk_drewN ?_ _|refine blk_drew ?_|refine blk_alloc ?_ _));exact BK254.out,GE254.out,HR0.out⟩),by repeat (first|(with_reducible first|exact HB.out|apply below_alloc|apply pw_below_drewN|apply below_drew1|refine below_set ?_ GE254.out)|exact HB.out),by repeat (first|(with_reducible first|exact HBW.out|apply below_alloc|apply pw_below_drewN|apply below_drew1|refine below_set ?_ GW254.out)|exact HBW.out)⟩

/-! ### spec_l6Rd_pick: function 36 -/
def spec_l6Rd_pick.j0:Nat → Int → Bool → List Int → Int → Option (Int × Int)
 | 0,_,_,_,_=>none
 | k + 1,x1,x24,x1000,x1001=>if x24 = true then (some (0,x1001)) else (if (wrap64 (x1001 - 1)) < (x1000.length:Int) then (if 0 ≤ (wrap64 (x1001 - 1)) then (if x1 = 0 then (none) else (some (Int.tmod (wrap64 (rd x1000 (wrap64 (x1001 - 1)))) x1,x1001))) else (none)) else (if (x1000.length:Int) = 0 then (none) else (if 0 ≤ (Int.tmod (wrap64 (x1001 - 1)) (x1000.length:Int)) then (if (Int.tmod (wrap64 (x1001 - 1)) (x1000.length:Int)) < (x1000.length:Int) then (if 0 ≤ (Int.tmod (wrap64 ((wrap64 ((wrap64 (x1001 - 1)) * 7)) + 3)) (x1000.length:Int)) then (if (Int.tmod (wrap64 ((wrap64 ((wrap64 (x1001 - 1)) * 7)) + 3)) (x1000.length:Int)) < (x1000.length:Int) then (if x1 = 0 then (none) else (some (Int.tmod (Go.bits .xor .i64 (wrap64 ((wrap64 ((wrap64 ((wrap64 ((wrap64 (rd x1000 (Int.tmod (wrap64 (x1001 - 1)) (x1000.length:Int)))) * 131)) + (wrap64 ((wrap64 (rd x1000 (Int.tmod (wrap64 ((wrap64 ((wrap64 (x1001 - 1)) * 7)) + 3)) (x1000.length:Int)))) * 1117)))) + (wrap64 ((wrap64 (x1001 - 1)) * 29)))) + (wrap64 ((wrap64 (Int.tdiv (wrap64 (x1001 - 1)) (x1000.length:Int))) * 53)))) (wrap64 (Int.tdiv (wrap64 ((wrap64 ((wrap64 ((wrap64 ((wrap64 (rd x1000 (Int.tmod (wrap64 (x1001 - 1)) (x1000.length:Int)))) * 131)) + (wrap64 ((wrap64 (rd x1000 (Int.tmod (wrap64 ((wrap64 ((wrap64 (x1001 - 1)) * 7)) + 3)) (x1000.length:Int)))) * 1117)))) + (wrap64 ((wrap64 (x1001 - 1)) * 29)))) + (wrap64 ((wrap64 (Int.tdiv (wrap64 (x1001 - 1)) (x1000.length:Int))) * 53)))) 64))) x1,x1001))) else (none)) else (none)) else (none)) else (none))))
def spec_l6Rd_pick.f (k:Nat) (s0_0:List Int) (s0_1:Int) (a1:Int):Option (Int × Int):=if a1 < 1 then (spec_l6Rd_pick.j0 k a1 true s0_0 (wrap64 (s0_1 + 1))) else (spec_l6Rd_pick.j0 k a1 ((s0_0.length:Int) == 0) s0_0 (wrap64 (s0_1 + 1)))
theorem spec_l6Rd_pick.mono_l:∀ k,(∀ y0 y1 y2 y3,LeO (spec_l6Rd_pick.j0 k y0 y1 y2 y3) (spec_l6Rd_pick.j0 (k + 1) y0 y1 y2 y3))
 | 0=>fun _ _ _ _ r h=>by simp [spec_l6Rd_pick.j0] at h
 | k + 1=>by
  have ih0:=spec_l6Rd_pick.mono_l k
  ·intro y0 y1 y2 y3
   unfold spec_l6Rd_pick.j0
   repeat' first
   | (with_reducible exact ih0 _ _ _ _)
   | (with_reducible exact LeO.refl _)
   | (with_reducible exact LeO.none _)
   | (with_reducible refine LeO.ite ?_ ?_)
   | (with_reducible refine LeO.bind ?_ (fun _=>?_))
   | exact ih0 _ _ _ _
   | exact LeO.none _
   | refine LeO.ite ?_ ?_
   | refine LeO.bind ?_ (fun _=>?_)
theorem spec_l6Rd_pick.mono:∀ a0 a1 a2 k,LeO (spec_l6Rd_pick.f k a0 a1 a2) (spec_l6Rd_pick.f (k + 1) a0 a1 a2):=by
 intro a0 a1 a2 k
 have ih0:=spec_l6Rd_pick.mono_l k
 unfold spec_l6Rd_pick.f
 repeat' first
   | (with_reducible exact ih0 _ _ _ _)
   | (with_reducible exact LeO.refl _)
   | (with_reducible exact LeO.none _)
   | (with_reducible refine LeO.ite ?_ ?_)
   | (with_reducible refine LeO.bind ?_ (fun _=>?_))
   | exact ih0 _ _ _ _
   | exact LeO.none _
   | refine LeO.ite ?_ ?_
   | refine LeO.bind ?_ (fun _=>?_)
theorem spec_l6Rd_pick.calls (k:Nat) (g:Nat) (s0_0:List Int) (s0_1:Int) (a1:Int) (r1:Int) (r2:Int) (w0 w:World) (hI:IsS70 w0 w g s0_0 s0_1) (hB:Below w0.heap.size w0 w) (h:spec_l6Rd_pick.f k s0_0 s0_1 a1 = some (r1,r2)) :
  Calls Try.prog 36 #[.pointer (some ⟨g,0,none⟩), .int .i64 a1] w fun e w'=>e = .returned (.int .i64 r1) ∧ IsS70 w0 w' g s0_0 r2 ∧ Below w0.heap.size w0 w' ∧ KeepBut w w' g none:=by
 have HI0:=Aside0.mk hI
 have HK:=Aside0.mk (KeepBut.refl w g none)
 have HL:=Aside0.mk hB.size
 clear hI
 have HW0:=Aside0.mk hB.size
 have HB:=Aside0.mk hB
 clear hB
 have H:(if a1 < 1 then (spec_l6Rd_pick.j0 k a1 true s0_0 (wrap64 (s0_1 + 1))) else (spec_l6Rd_pick.j0 k a1 ((s0_0.length:Int) == 0) s0_0 (wrap64 (s0_1 + 1)))) = some (r1,r2):=h
 clear h
 have HC3:=Aside0.mk H
 clear H
 obtain ⟨ASz4_0,cSz4_0,HGz4,hgz4,HSz4_0⟩:=HI0.out
 have hcz4_0:=cellS70_0 HGz4
 have hcz4_1:=cellS70_1 HGz4
 have hfz4_1:=blk_frozen HGz4 1
 clear HGz4 hgz4
 go_enter Try.func36,Try.ntmps36
 go_upto_region 2 with (fail)
 repeat (go_quiet (fail);go_upto_region 2 with (fail))
 go_cut [24] (fun v24 wc=>∃ (kq:Nat) (x24_2:Bool),v24 = .bool x24_2 ∧ Aside0 (spec_l6Rd_pick.j0 kq a1 x24_2 s0_0 (wrap64 (s0_1 + 1)) = some (r1,r2)) ∧ Aside0 (kq ≤ k) ∧ Aside0 (IsS70 w0 wc g s0_0 (wrap64 (s0_1 + 1))) ∧ Aside0 (KeepBut w wc g none) ∧ Aside0 (Below w0.heap.size w0 wc))
 case first =>
  have H:=HC3.out
  clear HC3
  by_cases c5:a1 < 1
  ·rw [if_pos c5] at H
   have c5b0:decide (a1 < 1) = true:=decide_eq_true c5
   clear c5
   (first|rw [c5b0]|(simp only [i64_w,i32_w];rw [c5b0])|skip)
   have H':=Aside0.mk H
   clear H
   go_wp2
   repeat (go_quiet (fail);try go_wp2)
   go_meet
   case rel=>exact ⟨_,(true),(by first|rfl|(simp;done)|(simp only [i64_w,i32_w];done)|(simp only [i64_w,i32_w];rfl)|(simp [*];done)|(simp [emp_bne,emp_beq];done)),H',⟨by first|omega|exact Nat.le_refl _⟩,⟨by repeat (first|(with_reducible first|exact HI0.out|apply IsS70.alloc|apply IsS70.drewN|apply IsS70.drew|apply IsS70.set_1)|exact HI0.out)⟩,⟨by repeat (first|(with_reducible first|exact HK.out|apply KeepBut.set_|apply keep_drewN|apply keep_drew|apply keep_alloc)|exact HK.out)⟩,⟨by repeat (first|(with_reducible first|exact HB.out|apply below_alloc|apply pw_below_drewN|apply below_drew1|refine below_set ?_ (IsS70.ge HI0.out))|exact HB.out)⟩⟩
  ·rw [if_neg c5] at H
   have c5b0:decide (a1 < 1) = false:=decide_eq_false c5
   clear c5
   (first|rw [c5b0]|(simp only [i64_w,i32_w];rw [c5b0])|skip)
   have H':=Aside0.mk H
   clear H
   obtain ⟨ASz6_0,cSz6_0,HGz6,hgz6,HSz6_0⟩:=HI0.out
   have hcz6_0:=cellS70_0 HGz6
   have hcz6_1:=cellS70_1 HGz6
   have hfz6_1:=blk_frozen HGz6 1
   clear HGz6 hgz6
   go_wp2
   repeat (go_quiet (fail);try go_wp2)
   go_meet
   case rel=>exact ⟨_,(((s0_0.length:Int) == 0)),(by first|rfl|(simp;done)|(simp only [i64_w,i32_w];done)|(simp only [i64_w,i32_w];rfl)|(simp [*];done)|(simp [emp_bne,emp_beq];done)),H',⟨by first|omega|exact Nat.le_refl _⟩,⟨by repeat (first|(with_reducible first|exact HI0.out|apply IsS70.alloc|apply IsS70.drewN|apply IsS70.drew|apply IsS70.set_1)|exact HI0.out)⟩,⟨by repeat (first|(with_reducible first|exact HK.out|apply KeepBut.set_|apply keep_drewN|apply keep_drew|apply keep_alloc)|exact HK.out)⟩,⟨by repeat (first|(with_reducible first|exact HB.out|apply below_alloc|apply pw_below_drewN|apply below_drew1|refine below_set ?_ (IsS70.ge HI0.out))|exact HB.out)⟩⟩
 case rest =>
  clear HC3
  try clear p2
  try clear c3
  try clear c5
  try clear c5b0
  try clear p6
  try clear hcz4_0
  try clear hcz4_1
  try clear hcz6_0
  try clear hcz6_1
  try clear hfz4_1
  try clear hfz6_1
  obtain ⟨kq,x24_2,rfl,HA,HJ2,HI0,HK,HB⟩:=hcut
  cases kq with
  | zero=>exact absurd HA.out (by simp [spec_l6Rd_pick.j0])
  | succ kj2 =>
   have H:=HA.out
   clear HA
   simp only [spec_l6Rd_pick.j0] at H
   by_cases c7:x24_2 = true
   ·subst c7
    have H1:(some (0,(wrap64 (s0_1 + 1)))) = some (r1,r2):=by rw [if_pos rfl] at H;exact H
    clear H
    have H:=H1
    clear H1
    simp only [Option.some.injEq,Prod.mk.injEq] at H
    obtain ⟨rfl,rfl⟩:=H
    go_wp2
    repeat (go_quiet (fail);try go_wp2)
    go_ret
    exact ⟨by first|rfl|(simp <;> rfl)|(simp [*] <;> rfl),by repeat (first|(with_reducible first|exact HI0.out|apply IsS70.alloc|apply IsS70.drewN|apply IsS70.drew|apply IsS70.set_1)|exact HI0.out),by repeat (first|(with_reducible first|exact HB.out|apply below_alloc|apply pw_below_drewN|apply below_drew1|refine below_set ?_ (IsS70.ge HI0.out))|exact HB.out),by repeat (first|(with_reducible first|exact HK.out|apply KeepBut.set_|apply keep_drewN|apply keep_drew|apply keep_alloc)|exact HK.out)⟩
   ·replace c7:=Bool.eq_false_iff.mpr c7
    subst c7
    have H1:(if (wrap64 ((wrap64 (s0_1 + 1)) - 1)) < (s0_0.length:Int) then (if 0 ≤ (wrap64 ((wrap64 (s0_1 + 1)) - 1)) then (if a1 = 0 then (none) else (some (Int.tmod (wrap64 (rd s0_0 (wrap64 ((wrap64 (s0_1 + 1)) - 1)))) a1,(wrap64 (s0_1 + 1))))) else (none)) else (if (s0_0.length:Int) = 0 then (none) else (if 0 ≤ (Int.tmod (wrap64 ((wrap64 (s0_1 + 1)) - 1)) (s0_0.length:Int)) then (if (Int.tmod (wrap64 ((wrap64 (s0_1 + 1)) - 1)) (s0_0.length:Int)) < (s0_0.length:Int) then (if 0 ≤ (Int.tmod (wrap64 ((wrap64 ((wrap64 ((wrap64 (s0_1 + 1)) - 1)) * 7)) + 3)) (s0_0.length:Int)) then (if (Int.tmod (wrap64 ((wrap64 ((wrap64 ((wrap64 (s0_1 + 1)) - 1)) * 7)) + 3)) (s0_0.length:Int)) < (s0_0.length:Int) then (if a1 = 0 then (none) else (some (Int.tmod (Go.bits .xor .i64 (wrap64 ((wrap64 ((wrap64 ((wrap64 ((wrap64 (rd s0_0 (Int.tmod (wrap64 ((wrap64 (s0_1 + 1)) - 1)) (s0_0.length:Int)))) * 131)) + (wrap64 ((wrap64 (rd s0_0 (Int.tmod (wrap64 ((wrap64 ((wrap64 ((wrap64 (s0_1 + 1)) - 1)) * 7)) + 3)) (s0_0.length:Int)))) * 1117)))) + (wrap64 ((wrap64 ((wrap64 (s0_1 + 1)) - 1)) * 29)))) + (wrap64 ((wrap64 (Int.tdiv (wrap64 ((wrap64 (s0_1 + 1)) - 1)) (s0_0.length:Int))) * 53)))) (wrap64 (Int.tdiv (wrap64 ((wrap64 ((wrap64 ((wrap64 ((wrap64 (rd s0_0 (Int.tmod (wrap64 ((wrap64 (s0_1 + 1)) - 1)) (s0_0.length:Int)))) * 131)) + (wrap64 ((wrap64 (rd s0_0 (Int.tmod (wrap64 ((wrap64 ((wrap64 ((wrap64 (s0_1 + 1)) - 1)) * 7)) + 3)) (s0_0.length:Int)))) * 1117)))) + (wrap64 ((wrap64 ((wrap64 (s0_1 + 1)) - 1)) * 29)))) + (wrap64 ((wrap64 (Int.tdiv (wrap64 ((wrap64 (s0_1 + 1)) - 1)) (s0_0.length:Int))) * 53)))) 64))) a1,(wrap64 (s0_1 + 1))))) else (none)) else (none)) else (none)) else (none)))) = some (r1,r2):=by rw [if_neg (show ¬ (false = true) by decide)] at H;exact H
    clear H
    have H:=H1
    clear H1
    by_cases c8:(wrap64 ((wrap64 (s0_1 + 1)) - 1)) < (s0_0.length:Int)
    ·rw [if_pos c8] at H
     have c8b0:decide ((wrap64 ((wrap64 (s0_1 + 1)) - 1)) < (s0_0.length:Int)) = true:=decide_eq_true c8
     clear c8
     obtain ⟨ji9,hji9⟩:∃ j_:Int,(wrap64 ((wrap64 (s0_1 + 1)) - 1)) = j_:=⟨_,rfl⟩
     replace H:(if 0 ≤ (ji9) then (if a1 = 0 then (none) else (some (Int.tmod (wrap64 (rd s0_0 (ji9))) a1,(wrap64 (s0_1 + 1))))) else (none)) = some (r1,r2):=by first|(rw [hji9] at H;exact H)|(simp only [hji9] at H ⊢;exact H)
     (try rw [hji9] at c8b0)
     have hji9w:(IntKind.i64.wrap ((wrap64 (s0_1 + 1)) - 1)) = ji9:=(i64_w _).trans hji9
     by_cases c10:0 ≤ (ji9)
     ·rw [if_pos c10] at H
      have c10b0:decide (0 ≤ (ji9)) = true:=decide_eq_true c10
      clear c10
      by_cases c11:a1 = 0
      ·rw [if_pos c11] at H
       exact absurd H (by simp)
      ·rw [if_neg c11] at H
       have c11b0:(a1 == 0) = false:=beq_eq_false_iff_ne.mpr c11
       have c11b1:(a1 != 0) = true:=bne_iff_ne.mpr c11
       simp only [Option.some.injEq,Prod.mk.injEq] at H
       obtain ⟨rfl,rfl⟩:=H
       obtain ⟨ASz12_0,cSz12_0,HGz12,hgz12,HSz12_0⟩:=HI0.out
       have hcz12_0:=cellS70_0 HGz12
       have hcz12_1:=cellS70_1 HGz12
       have hfz12_1:=blk_frozen HGz12 1
       clear HGz12 hgz12
       have p255:0 ≤ ((ji9):Int):=of_decide_eq_true (by first|(with_reducible assumption)|assumption)
       have q255:(ji9) < (s0_0.length:Int):=of_decide_eq_true (by first|(with_reducible assumption)|assumption)
       obtain ⟨ad255,e255,hx255_0⟩:=Kd.at_int HSz12_0 (ji9) p255 q255
       cases e255
       replace hx255_0:=pw_cell_below HB.out hx255_0
       replace p255:=eq_true p255
       replace q255:=eq_true q255
       go_wp2
       repeat (go_quiet (fail);try go_wp2)
       go_ret
       exact ⟨by first|rfl|(simp <;> rfl)|(simp only [← hji9];first|rfl|(simp <;> rfl))|(simp [*] <;> rfl),by repeat (first|(with_reducible first|exact HI0.out|apply IsS70.alloc|apply IsS70.drewN|apply IsS70.drew|apply IsS70.set_1)|exact HI0.out),by repeat (first|(with_reducible first|exact HB.out|apply below_alloc|apply pw_below_drewN|apply below_drew1|refine below_set ?_ (IsS70.ge HI0.out))|exact HB.out),by repeat (first|(with_reducible first|exact HK.out|apply KeepBut.set_|apply keep_drewN|apply keep_drew|apply keep_alloc)|exact HK.out)⟩
     ·rw [if_neg c10] at H
      exact absurd H (by simp)
    ·rw [if_neg c8] at H
     have c8b0:decide ((wrap64 ((wrap64 (s0_1 + 1)) - 1)) < (s0_0.length:Int)) = false:=decide_eq_false c8
     clear c8
     by_cases c13:(s0_0.length:Int) = 0
     ·rw [if_pos c13] at H
      exact absurd H (by simp)
     ·rw [if_neg c13] at H
      have c13b0:((s0_0.length:Int) == 0) = false:=beq_eq_false_iff_ne.mpr c13
      have c13b1:((s0_0.length:Int) != 0) = true:=bne_iff_ne.mpr c13
      have c13b2:¬ (s0_0 = []):=fun h_=>c13 (by rw [h_];rfl)
      obtain ⟨ji14,hji14⟩:∃ j_:Int,(Int.tmod (wrap64 ((wrap64 (s0_1 + 1)) - 1)) (s0_0.length:Int)) = j_:=⟨_,rfl⟩
      replace H:(if 0 ≤ (ji14) then (if (ji14) < (s0_0.length:Int) then (if 0 ≤ (Int.tmod (wrap64 ((wrap64 ((wrap64 ((wrap64 (s0_1 + 1)) - 1)) * 7)) + 3)) (s0_0.length:Int)) then (if (Int.tmod (wrap64 ((wrap64 ((wrap64 ((wrap64 (s0_1 + 1)) - 1)) * 7)) + 3)) (s0_0.length:Int)) < (s0_0.length:Int) then (if a1 = 0 then (none) else (some (Int.tmod (Go.bits .xor .i64 (wrap64 ((wrap64 ((wrap64 ((wrap64 ((wrap64 (rd s0_0 (ji14))) * 131)) + (wrap64 ((wrap64 (rd s0_0 (Int.tmod (wrap64 ((wrap64 ((wrap64 ((wrap64 (s0_1 + 1)) - 1)) * 7)) + 3)) (s0_0.length:Int)))) * 1117)))) + (wrap64 ((wrap64 ((wrap64 (s0_1 + 1)) - 1)) * 29)))) + (wrap64 ((wrap64 (Int.tdiv (wrap64 ((wrap64 (s0_1 + 1)) - 1)) (s0_0.length:Int))) * 53)))) (wrap64 (Int.tdiv (wrap64 ((wrap64 ((wrap64 ((wrap64 ((wrap64 (rd s0_0 (ji14))) * 131)) + (wrap64 ((wrap64 (rd s0_0 (Int.tmod (wrap64 ((wrap64 ((wrap64 ((wrap64 (s0_1 + 1)) - 1)) * 7)) + 3)) (s0_0.length:Int)))) * 1117)))) + (wrap64 ((wrap64 ((wrap64 (s0_1 + 1)) - 1)) * 29)))) + (wrap64 ((wrap64 (Int.tdiv (wrap64 ((wrap64 (s0_1 + 1)) - 1)) (s0_0.length:Int))) * 53)))) 64))) a1,(wrap64 (s0_1 + 1))))) else (none)) else (none)) else (none)) else (none)) = some (r1,r2):=by first|(rw [hji14] at H;exact H)|(simp only [hji14] at H ⊢;exact H)
      by_cases c15:0 ≤ (ji14)
      ·rw [if_pos c15] at H
       have c15b0:decide (0 ≤ (ji14)) = true:=decide_eq_true c15
       clear c15
       by_cases c16:(ji14) < (s0_0.length:Int)
       ·rw [if_pos c16] at H
        have c16b0:decide ((ji14) < (s0_0.length:Int)) = true:=decide_eq_true c16
        clear c16
        obtain ⟨ji17,hji17⟩:∃ j_:Int,(Int.tmod (wrap64 ((wrap64 ((wrap64 ((wrap64 (s0_1 + 1)) - 1)) * 7)) + 3)) (s0_0.length:Int)) = j_:=⟨_,rfl⟩
        replace H:(if 0 ≤ (ji17) then (if (ji17) < (s0_0.length:Int) then (if a1 = 0 then (none) else (some (Int.tmod (Go.bits .xor .i64 (wrap64 ((wrap64 ((wrap64 ((wrap64 ((wrap64 (rd s0_0 (ji14))) * 131)) + (wrap64 ((wrap64 (rd s0_0 (ji17))) * 1117)))) + (wrap64 ((wrap64 ((wrap64 (s0_1 + 1)) - 1)) * 29)))) + (wrap64 ((wrap64 (Int.tdiv (wrap64 ((wrap64 (s0_1 + 1)) - 1)) (s0_0.length:Int))) * 53)))) (wrap64 (Int.tdiv (wrap64 ((wrap64 ((wrap64 ((wrap64 ((wrap64 (rd s0_0 (ji14))) * 131)) + (wrap64 ((wrap64 (rd s0_0 (ji17))) * 1117)))) + (wrap64 ((wrap64 ((wrap64 (s0_1 + 1)) - 1)) * 29)))) + (wrap64 ((wrap64 (Int.tdiv (wrap64 ((wrap64 (s0_1 + 1)) - 1)) (s0_0.length:Int))) * 53)))) 64))) a1,(wrap64 (s0_1 + 1))))) else (none)) else (none)) = some (r1,r2):=by first|(rw [hji17] at H;exact H)|(simp only [hji17] at H ⊢;exact H)
        by_cases c18:0 ≤ (ji17)
        ·rw [if_pos c18] at H
         have c18b0:decide (0 ≤ (ji17)) = true:=decide_eq_true c18
         clear c18
         by_cases c19:(ji17) < (s0_0.length:Int)
         ·rw [if_pos c19] at H
          have c19b0:decide ((ji17) < (s0_0.length:Int)) = true:=decide_eq_true c19
          clear c19
          by_cases c20:a1 = 0
          ·rw [if_pos c20] at H
           exact absurd H (by simp)
          ·rw [if_neg c20] at H
           have c20b0:(a1 == 0) = false:=beq_eq_false_iff_ne.mpr c20
           have c20b1:(a1 != 0) = true:=bne_iff_ne.mpr c20
           simp only [Option.some.injEq,Prod.mk.injEq] at H
           obtain ⟨rfl,rfl⟩:=H
           obtain ⟨ASz21_0,cSz21_0,HGz21,hgz21,HSz21_0⟩:=HI0.out
           have hcz21_0:=cellS70_0 HGz21
           have hcz21_1:=cellS70_1 HGz21
           have hfz21_1:=blk_frozen HGz21 1
           clear HGz21 hgz21
           have p256:0 ≤ ((ji14):Int):=of_decide_eq_true (by first|(with_reducible assumption)|assumption)
           have q256:(ji14) < (s0_0.length:Int):=of_decide_eq_true (by first|(with_reducible assumption)|assumption)
           obtain ⟨ad256,e256,hx256_0⟩:=Kd.at_int HSz21_0 (ji14) p256 q256
           cases e256
           replace hx256_0:=pw_cell_below HB.out hx256_0
           replace p256:=eq_true p256
           replace q256:=eq_true q256
           have p257:0 ≤ ((ji17):Int):=of_decide_eq_true (by first|(with_reducible assumption)|assumption)
           have q257:(ji17) < (s0_0.length:Int):=of_decide_eq_true (by first|(with_reducible assumption)|assumption)
           obtain ⟨ad257,e257,hx257_0⟩:=Kd.at_int HSz21_0 (ji17) p257 q257
           obtain rfl:ad256 = ad257:=(by injection e257)
           replace hx257_0:=pw_cell_below HB.out hx257_0
           replace p257:=eq_true p257
           replace q257:=eq_true q257
           go_wp2
           repeat (go_quiet (fail);try go_wp2)
           go_ret
           exact ⟨by first|rfl|(simp <;> rfl)|(simp only [← hji14,← hji17];first|rfl|(simp <;> rfl))|(simp [*] <;> rfl),by repeat (first|(with_reducible first|exact HI0.out|apply IsS70.alloc|apply IsS70.drewN|apply IsS70.drew|apply IsS70.set_1)|exact HI0.out),by repeat (first|(with_reducible first|exact HB.out|apply below_alloc|apply pw_below_drewN|apply below_drew1|refine below_set ?_ (IsS70.ge HI0.out))|exact HB.out),by repeat (first|(with_reducible first|exact HK.out|apply KeepBut.set_|apply keep_drewN|apply keep_drew|apply keep_alloc)|exact HK.out)⟩
         ·rw [if_neg c19] at H
          exact absurd H (by simp)
        ·rw [if_neg c18] at H
         exact absurd H (by simp)
       ·rw [if_neg c16] at H
        exact absurd H (by simp)
      ·rw [if_neg c15] at H
       exact absurd H (by simp)

/-! ### spec_l6Rd_of: function 49 -/
def spec_l6Rd_of.f (k:Nat) (s0_0:List Int) (s0_1:Int) (l1:List ByteArray):Option (ByteArray × Int):=(spec_l6Rd_pick.f k s0_0 s0_1 (l1.length:Int)).bind fun bt258=>(if 0 ≤ bt258.1 then (if bt258.1 < (l1.length:Int) then (some (rdOf ByteArray.empty l1 bt258.1,bt258.2)) else (none)) else (none))
theorem spec_l6Rd_of.mono:∀ a0 a1 a2 k,LeO (spec_l6Rd_of.f k a0 a1 a2) (spec_l6Rd_of.f (k + 1) a0 a1 a2):=by
 intro a0 a1 a2 k
 unfold spec_l6Rd_of.f
 repeat' first
   | (with_reducible exact spec_l6Rd_pick.mono _ _ _ _)
   | (with_reducible exact LeO.refl _)
   | (with_reducible exact LeO.none _)
   | (with_reducible refine LeO.ite ?_ ?_)
   | (with_reducible refine LeO.bind ?_ (fun _=>?_))
   | exact spec_l6Rd_pick.mono _ _ _ _
   | exact LeO.none _
   | refine LeO.ite ?_ ?_
   | refine LeO.bind ?_ (fun _=>?_)
theorem spec_l6Rd_of.calls (k:Nat) (g:Nat) (s0_0:List Int) (s0_1:Int) (A1:Option Addr) (c1:Nat) (l1:List ByteArray) (r1:ByteArray) (r2:Int) (w0 w:World) (hI:IsS70 w0 w g s0_0 s0_1) (hB:Below w0.heap.size w0 w) (hr1:Kd.C Kd.string w A1 l1.length l1) (hc1:l1.length ≤ c1) (hf1:∀ ad,A1 = some ad → 0 < l1.length → ad.block ≠ g) (h:spec_l6Rd_of.f k s0_0 s0_1 l1 = some (r1,r2)) :
  Calls Try.prog 49 #[.pointer (some ⟨g,0,none⟩), .slice A1 l1.length c1] w fun e w'=>e = .returned (.string r1) ∧ IsS70 w0 w' g s0_0 r2 ∧ Below w0.heap.size w0 w' ∧ KeepBut w w' g none:=by
 have HR1:=Aside0.mk hr1
 have HC1:=Aside0.mk hc1
 clear hr1 hc1
 have HI0:=Aside0.mk hI
 have HK:=Aside0.mk (KeepBut.refl w g none)
 have HL:=Aside0.mk hB.size
 clear hI
 have HW0:=Aside0.mk hB.size
 have HB:=Aside0.mk hB
 clear hB
 have H:((spec_l6Rd_pick.f k s0_0 s0_1 (l1.length:Int)).bind fun bt258=>(if 0 ≤ bt258.1 then (if bt258.1 < (l1.length:Int) then (some (rdOf ByteArray.empty l1 bt258.1,bt258.2)) else (none)) else (none))) = some (r1,r2):=h
 clear h
 replace H:=Option.bind_eq_some_iff.mp H
 obtain ⟨⟨t258,t259⟩,A30,H⟩:=H
 replace H:(if 0 ≤ t258 then (if t258 < (l1.length:Int) then (some (rdOf ByteArray.empty l1 t258,t259)) else (none)) else (none)) = some (r1,r2):=H
 have A3:=Aside0.mk A30
 clear A30
 by_cases c4:0 ≤ t258
 ·rw [if_pos c4] at H
  have c4b0:decide (0 ≤ t258) = true:=decide_eq_true c4
  clear c4
  by_cases c5:t258 < (l1.length:Int)
  ·rw [if_pos c5] at H
   have c5b0:decide (t258 < (l1.length:Int)) = true:=decide_eq_true c5
   clear c5
   simp only [Option.some.injEq,Prod.mk.injEq] at H
   obtain ⟨rfl,rfl⟩:=H
   go_enter Try.func49,Try.ntmps49
   go_wp2_with (first|((with_reducible refine gate_callee (f:=36) rfl ?_);refine goesL_ (some 9) rfl rfl Try.func36 (by kernel_rfl) rfl #[.pointer (some ⟨g,0,none⟩), .int .i64 (l1.length:Int)] rfl (by (try simp only [List.map_toArray,List.map_cons,List.map_nil]);first|done|rfl|(simp only [List.length_drop,List.length_take];rfl)) ?_;(with_reducible refine (spec_l6Rd_pick.calls k g s0_0 s0_1 (l1.length:Int) t258 t259 w0 _ ?side1 ?side2 A3.out).mono ?_);(case side1=>repeat (first|(with_reducible first|exact HI0.out|apply IsS70.alloc|apply IsS70.drewN|apply IsS70.drew|apply IsS70.set_1)|exact HI0.out));(case side2=>repeat (first|(with_reducible first|exact HB.out|apply below_alloc|apply pw_below_drewN|apply below_drew1|refine below_set ?_ (IsS70.ge HI0.out))|exact HB.out));rintro e w6 ⟨rfl,hi,hb,hk⟩;refine ⟨_,rfl,?_⟩;have n0_:=Aside0.mk (KeepBut.trans (by repeat (first|(with_reducible first|exact HK.out|apply KeepBut.set_|apply keep_drewN|apply keep_drew|apply keep_alloc)|exact HK.out)) hk (.inl rfl));have n1_:=Aside0.mk (hb);have n2_:=Aside0.mk (hi);clear HK;clear HB;clear HI0;have HK:=n0_;have HB:=n1_;have HI0:=n2_;clear n0_ n1_ n2_;(try clear hb);(try clear hb2);(try clear hk);(try clear hi);have p260:0 ≤ (t258:Int):=of_decide_eq_true (by first|(with_reducible assumption)|assumption);have q260:t258 < (l1.length:Int):=of_decide_eq_true (by first|(with_reducible assumption)|assumption);obtain ⟨ad260,e260,hx260_0⟩:=Kd.at_string HR1.out t258 p260 q260;cases e260;replace hx260_0:=keep_cell HK.out hx260_0 (by first|(rw [add_block];exact hf1 _ rfl (by omega))|exact hf1 _ rfl (by omega)|exact hf1 ad260 rfl (by omega));replace p260:=eq_true p260;replace q260:=eq_true q260))
   go_ret
   exact ⟨by first|rfl|(simp <;> rfl)|(simp [*] <;> rfl),by repeat (first|(with_reducible first|exact HI0.out|apply IsS70.alloc|apply IsS70.drewN|apply IsS70.drew|apply IsS70.set_1)|exact HI0.out),by repeat (first|(with_reducible first|exact HB.out|apply below_alloc|apply pw_below_drewN|apply below_drew1|refine below_set ?_ (IsS70.ge HI0.out))|exact HB.out),by repeat (first|(with_reducible first|exact HK.out|apply KeepBut.set_|apply keep_drewN|apply keep_drew|apply keep_alloc)|exact HK.out)⟩
  ·rw [if_neg c5] at H
   exact absurd H (by simp)
 ·rw [if_neg c4] at H
  exact absurd H (by simp)

/-! ### spec_l71Rule: function 62 -/
def spec_l71Rule.f (k:Nat) (s0_0:List Int) (s0_1:Int):Option (ByteArray × Int):=(spec_l6Rd_of.f k s0_0 s0_1 (([(⟨#[47]⟩:ByteArray),(⟨#[47,97]⟩:ByteArray),(⟨#[47,98]⟩:ByteArray),(⟨#[47,97,47]⟩:ByteArray),(⟨#[47,42,98]⟩:ByteArray),(⟨#[47,97,36]⟩:ByteArray),(⟨#[47,99]⟩:ByteArray),(⟨#[47,42,63]⟩:ByteArray),(⟨#[47,97,47,98]⟩:ByteArray),(⟨#[47,42,47,98,36]⟩:ByteArray),(⟨#[47,36]⟩:ByteArray),(⟨#[47,98,42,99]⟩:ByteArray),(⟨#[47,110,111,116,105,99,101]⟩:ByteArray),(⟨#[47,42]⟩:ByteArray)]:List ByteArray))).bind fun bt264=>(some (bt264.1,bt264.2))
theorem spec_l71Rule.mono:∀ a0 a1 k,LeO (spec_l71Rule.f k a0 a1) (spec_l71Rule.f (k + 1) a0 a1):=by
 intro a0 a1 k
 unfold spec_l71Rule.f
 repeat' first
   | (with_reducible exact spec_l6Rd_of.mono _ _ _ _)
   | (with_reducible exact LeO.refl _)
   | (with_reducible exact LeO.none _)
   | (with_reducible refine LeO.ite ?_ ?_)
   | (with_reducible refine LeO.bind ?_ (fun _=>?_))
   | exact spec_l6Rd_of.mono _ _ _ _
   | exact LeO.none _
   | refine LeO.ite ?_ ?_
   | refine LeO.bind ?_ (fun _=>?_)
theorem spec_l71Rule.calls (k:Nat) (g:Nat) (s0_0:List Int) (s0_1:Int) (r1:ByteArray) (r2:Int) (w0 w:World) (hI:IsS70 w0 w g s0_0 s0_1) (hB:Below w0.heap.size w0 w) (h:spec_l71Rule.f k s0_0 s0_1 = some (r1,r2)) :
  Calls Try.prog 62 #[.pointer (some ⟨g,0,none⟩)] w fun e w'=>e = .returned (.string r1) ∧ IsS70 w0 w' g s0_0 r2 ∧ Below w0.heap.size w0 w' ∧ KeepBut w w' g none:=by
 have HI0:=Aside0.mk hI
 have HK:=Aside0.mk (KeepBut.refl w g none)
 have HL:=Aside0.mk hB.size
 clear hI
 have HW0:=Aside0.mk hB.size
 have HB:=Aside0.mk hB
 clear hB
 have H:((spec_l6Rd_of.f k s0_0 s0_1 (([(⟨#[47]⟩:ByteArray),(⟨#[47,97]⟩:ByteArray),(⟨#[47,98]⟩:ByteArray),(⟨#[47,97,47]⟩:ByteArray),(⟨#[47,42,98]⟩:ByteArray),(⟨#[47,97,36]⟩:ByteArray),(⟨#[47,99]⟩:ByteArray),(⟨#[47,42,63]⟩:ByteArray),(⟨#[47,97,47,98]⟩:ByteArray),(⟨#[47,42,47,98,36]⟩:ByteArray),(⟨#[47,36]⟩:ByteArray),(⟨#[47,98,42,99]⟩:ByteArray),(⟨#[47,110,111,116,105,99,101]⟩:ByteArray),(⟨#[47,42]⟩:ByteArray)]:List ByteArray))).bind fun bt264=>(some (bt264.1,bt264.2))) = some (r1,r2):=h
 clear h
 obtain ⟨y261,hy261⟩:∃ y_:List ByteArray,y_ = (([(⟨#[47]⟩:ByteArray),(⟨#[47,97]⟩:ByteArray),(⟨#[47,98]⟩:ByteArray),(⟨#[47,97,47]⟩:ByteArray),(⟨#[47,42,98]⟩:ByteArray),(⟨#[47,97,36]⟩:ByteArray),(⟨#[47,99]⟩:ByteArray),(⟨#[47,42,63]⟩:ByteArray),(⟨#[47,97,47,98]⟩:ByteArray),(⟨#[47,42,47,98,36]⟩:ByteArray),(⟨#[47,36]⟩:ByteArray),(⟨#[47,98,42,99]⟩:ByteArray),(⟨#[47,110,111,116,105,99,101]⟩:ByteArray),(⟨#[47,42]⟩:ByteArray)]:List ByteArray)):=⟨_,rfl⟩
 replace H:((spec_l6Rd_of.f k s0_0 s0_1 y261).bind fun bt264=>(some (bt264.1,bt264.2))) = some (r1,r2):=by first|(rw [hy261];with_reducible exact H)|(have H2_:=(Option.bind_some _ _).symm.trans H;rw [hy261];with_reducible exact H2_)|(have H2_:=(Option.bind_some _ _).symm.trans H;with_reducible exact H2_)|with_reducible exact H|(rw [hy261];exact H)|exact H
 have Ny261:=Aside0.mk hy261
 clear hy261
 replace H:=Option.bind_eq_some_iff.mp H
 obtain ⟨⟨t264,t265⟩,A20,H⟩:=H
 replace H:(some (t264,t265)) = some (r1,r2):=H
 have A2:=Aside0.mk A20
 clear A20
 simp only [Option.some.injEq,Prod.mk.injEq] at H
 obtain ⟨rfl,rfl⟩:=H
 go_enter Try.func62,Try.ntmps62
 go_wp2_with (first|((with_reducible refine gate_dst (N:=4) rfl ?_);refine Kd.R_lit Kd.string _ 9 ?hg (N:=4) ?hd (xs:=([(⟨#[47]⟩:ByteArray),(⟨#[47,97]⟩:ByteArray),(⟨#[47,98]⟩:ByteArray),(⟨#[47,97,47]⟩:ByteArray),(⟨#[47,42,98]⟩:ByteArray),(⟨#[47,97,36]⟩:ByteArray),(⟨#[47,99]⟩:ByteArray),(⟨#[47,42,63]⟩:ByteArray),(⟨#[47,97,47,98]⟩:ByteArray),(⟨#[47,42,47,98,36]⟩:ByteArray),(⟨#[47,36]⟩:ByteArray),(⟨#[47,98,42,99]⟩:ByteArray),(⟨#[47,110,111,116,105,99,101]⟩:ByteArray),(⟨#[47,42]⟩:ByteArray)]:List ByteArray)) (inner:=[.string (⟨#[47]⟩:ByteArray), .string (⟨#[47,97]⟩:ByteArray), .string (⟨#[47,98]⟩:ByteArray), .string (⟨#[47,97,47]⟩:ByteArray), .string (⟨#[47,42,98]⟩:ByteArray), .string (⟨#[47,97,36]⟩:ByteArray), .string (⟨#[47,99]⟩:ByteArray), .string (⟨#[47,42,63]⟩:ByteArray), .string (⟨#[47,97,47,98]⟩:ByteArray), .string (⟨#[47,42,47,98,36]⟩:ByteArray), .string (⟨#[47,36]⟩:ByteArray), .string (⟨#[47,98,42,99]⟩:ByteArray), .string (⟨#[47,110,111,116,105,99,101]⟩:ByteArray), .string (⟨#[47,42]⟩:ByteArray)]) (ok:=fun _=>True) (okp:=fun _=>True) ?hr ?hp (fun _ hk=>hk) trivial (Below.refl _ _) (Nat.le_refl _) (by simp) ?_;(case hd=>rfl);(case hg=>rfl);(case hr=>first|(go_simp;done)|(go_simp;rfl));(case hp=>exact (Reps.one (show Kd.M Kd.string _ _ _ (⟨#[47]⟩:ByteArray) [.string (⟨#[47]⟩:ByteArray)] from rfl) (Reps.one (show Kd.M Kd.string _ _ _ (⟨#[47,97]⟩:ByteArray) [.string (⟨#[47,97]⟩:ByteArray)] from rfl) (Reps.one (show Kd.M Kd.string _ _ _ (⟨#[47,98]⟩:ByteArray) [.string (⟨#[47,98]⟩:ByteArray)] from rfl) (Reps.one (show Kd.M Kd.string _ _ _ (⟨#[47,97,47]⟩:ByteArray) [.string (⟨#[47,97,47]⟩:ByteArray)] from rfl) (Reps.one (show Kd.M Kd.string _ _ _ (⟨#[47,42,98]⟩:ByteArray) [.string (⟨#[47,42,98]⟩:ByteArray)] from rfl) (Reps.one (show Kd.M Kd.string _ _ _ (⟨#[47,97,36]⟩:ByteArray) [.string (⟨#[47,97,36]⟩:ByteArray)] from rfl) (Reps.one (show Kd.M Kd.string _ _ _ (⟨#[47,99]⟩:ByteArray) [.string (⟨#[47,99]⟩:ByteArray)] from rfl) (Reps.one (show Kd.M Kd.string _ _ _ (⟨#[47,42,63]⟩:ByteArray) [.string (⟨#[47,42,63]⟩:ByteArray)] from rfl) (Reps.one (show Kd.M Kd.string _ _ _ (⟨#[47,97,47,98]⟩:ByteArray) [.string (⟨#[47,97,47,98]⟩:ByteArray)] from rfl) (Reps.one (show Kd.M Kd.string _ _ _ (⟨#[47,42,47,98,36]⟩:ByteArray) [.string (⟨#[47,42,47,98,36]⟩:ByteArray)] from rfl) (Reps.one (show Kd.M Kd.string _ _ _ (⟨#[47,36]⟩:ByteArray) [.string (⟨#[47,36]⟩:ByteArray)] from rfl) (Reps.one (show Kd.M Kd.string _ _ _ (⟨#[47,98,42,99]⟩:ByteArray) [.string (⟨#[47,98,42,99]⟩:ByteArray)] from rfl) (Reps.one (show Kd.M Kd.string _ _ _ (⟨#[47,110,111,116,105,99,101]⟩:ByteArray) [.string (⟨#[47,110,111,116,105,99,101]⟩:ByteArray)] from rfl) (Reps.one (show Kd.M Kd.string _ _ _ (⟨#[47,42]⟩:ByteArray) [.string (⟨#[47,42]⟩:ByteArray)] from rfl) (Reps.none _ _))))))))))))))));intro v262 w3 ho4 hb hg_ hnew_;clear hg_ hnew_;(first|rw [← Ny261.out] at ho4|(simp only [Int.reduceToNat] at ho4;rw [← Ny261.out] at ho4));have n0_:=Aside0.mk (Kd.R_lower ho4 (keep_size (w:=w) (g:=g) (row:=none) (by repeat (first|(with_reducible first|exact HK.out|apply KeepBut.set_|apply keep_drewN|apply keep_drew|apply keep_alloc)|exact HK.out))));have n1_:=Aside0.mk (IsS70.below (by repeat (first|(with_reducible first|exact HI0.out|apply IsS70.alloc|apply IsS70.drewN|apply IsS70.drew|apply IsS70.set_1)|exact HI0.out)) hb);have n2_:=Aside0.mk (KeepBut.trans (by repeat (first|(with_reducible first|exact HK.out|apply KeepBut.set_|apply keep_drewN|apply keep_drew|apply keep_alloc)|exact HK.out)) (KeepBut.of_below hb g none) (.inl rfl));have n3_:=Aside0.mk (below_step (by repeat (first|(with_reducible first|exact HB.out|apply below_alloc|apply pw_below_drewN|apply below_drew1|refine below_set ?_ (IsS70.ge HI0.out))|exact HB.out)) hb);clear HI0;clear HK;clear HB;have HO263:=n0_;have HI0:=n1_;have HK:=n2_;have HB:=n3_;clear n0_ n1_ n2_ n3_;clear hb ho4;obtain ⟨Ao5,co5,eo5⟩:=Kd.R_slice HO263.out;subst eo5)|((with_reducible refine gate_callee (f:=49) rfl ?_);refine goesL_ (some 5) rfl rfl Try.func49 (by kernel_rfl) rfl #[.pointer (some ⟨g,0,none⟩), .slice Ao5 y261.length co5] rfl (by (try simp only [List.map_toArray,List.map_cons,List.map_nil]);first|done|rfl|(simp only [List.length_drop,List.length_take];rfl)) ?_;(with_reducible refine (spec_l6Rd_of.calls k g s0_0 s0_1 _ _ y261 t264 t265 w0 _ ?side1 ?side2 ?side3 ?side4 ?side5 A2.out).mono ?_);(case side1=>repeat (first|(with_reducible first|exact HI0.out|apply IsS70.alloc|apply IsS70.drewN|apply IsS70.drew|apply IsS70.set_1)|exact HI0.out));(case side2=>repeat (first|(with_reducible first|exact HB.out|apply below_alloc|apply pw_below_drewN|apply below_drew1|refine below_set ?_ (IsS70.ge HI0.out))|exact HB.out));(case side3=>repeat (first|exact (Kd.R_reads' HO263.out).2.2|(with_reducible refine Kd.C_alloc ?_ _)|(with_reducible refine Kd.C_drewN ?_ _)|(with_reducible refine Kd.C_drew ?_)));(case side4=>exact (Kd.R_reads' HO263.out).2.1);(case side5=>exact far_slice (IsS70.own_ne HI0.out HO263.out (by decide)));rintro e w6 ⟨rfl,hi,hb,hk⟩;refine ⟨_,rfl,?_⟩;have n0_:=Aside0.mk (Kd.R_mono (Kd.R_keep (IsS70.apart (show IsS70 w0 _ g s0_0 s0_1 from by repeat (first|(with_reducible first|exact HI0.out|apply IsS70.alloc|apply IsS70.drewN|apply IsS70.drew|apply IsS70.set_1)|exact HI0.out)) (by (with_reducible repeat (first|apply Kd.R_alloc|apply Kd.R_drewN|apply Kd.R_drew));exact HO263.out) (by decide)) hk (fun _ h=>h.2)) (fun _ h=>h.1));have n1_:=Aside0.mk (KeepBut.trans (by repeat (first|(with_reducible first|exact HK.out|apply KeepBut.set_|apply keep_drewN|apply keep_drew|apply keep_alloc)|exact HK.out)) hk (.inl rfl));have n2_:=Aside0.mk (hb);have n3_:=Aside0.mk (hi);clear HO263;clear HK;clear HB;clear HI0;have HO263:=n0_;have HK:=n1_;have HB:=n2_;have HI0:=n3_;clear n0_ n1_ n2_ n3_;(try clear hb);(try clear hb2);(try clear hk);(try clear hi)))
 go_ret
 exact ⟨by first|rfl|(simp <;> rfl)|(simp [*] <;> rfl),by repeat (first|(with_reducible first|exact HI0.out|apply IsS70.alloc|apply IsS70.drewN|apply IsS70.drew|apply IsS70.set_1)|exact HI0.out),by repeat (first|(with_reducible first|exact HB.out|apply below_alloc|apply pw_below_drewN|apply below_drew1|refine below_set ?_ (IsS70.ge HI0.out))|exact HB.out),by repeat (first|(with_reducible first|exact HK.out|apply KeepBut.set_|apply keep_drewN|apply keep_drew|apply keep_alloc)|exact HK.out)⟩

/-! ### spec_l71Rules: function 50 -/
def spec_l71Rules.l0:Nat → List (S57) → Int → List Int → Int → Option ((List (S57)) × Int)
 | 0,_,_,_,_=>none
 | k + 1,x3,x4,x1000,x1001=>if x4 > 0 then ((spec_l6Rd_pick.f k x1000 x1001 2).bind fun bt271=>((spec_l71Rule.f k x1000 bt271.2).bind fun bt273=>(if x3.length < 5864062014805 then (spec_l71Rules.l0 k (x3 ++ [(⟨(bt271.1 == 0),bt273.1⟩:S57)]) (wrap64 (x4 - 1)) x1000 bt273.2) else (none)))) else (some (x3,x1001))
def spec_l71Rules.f (k:Nat) (s0_0:List Int) (s0_1:Int):Option ((List (S57)) × Int):=(spec_l6Rd_pick.f k s0_0 s0_1 5).bind fun bt269=>(spec_l71Rules.l0 k (([]:List (S57))) bt269.1 s0_0 bt269.2)
theorem spec_l71Rules.mono_l:∀ k,(∀ y0 y1 y2 y3,LeO (spec_l71Rules.l0 k y0 y1 y2 y3) (spec_l71Rules.l0 (k + 1) y0 y1 y2 y3))
 | 0=>fun _ _ _ _ r h=>by simp [spec_l71Rules.l0] at h
 | k + 1=>by
  have ih0:=spec_l71Rules.mono_l k
  ·intro y0 y1 y2 y3
   unfold spec_l71Rules.l0
   repeat' first
   | (with_reducible exact ih0 _ _ _ _)
   | (with_reducible exact spec_l6Rd_pick.mono _ _ _ _)
   | (with_reducible exact spec_l71Rule.mono _ _ _)
   | (with_reducible exact LeO.refl _)
   | (with_reducible exact LeO.none _)
   | (with_reducible refine LeO.ite ?_ ?_)
   | (with_reducible refine LeO.bind ?_ (fun _=>?_))
   | exact ih0 _ _ _ _
   | exact spec_l6Rd_pick.mono _ _ _ _
   | exact spec_l71Rule.mono _ _ _
   | exact LeO.none _
   | refine LeO.ite ?_ ?_
   | refine LeO.bind ?_ (fun _=>?_)
theorem spec_l71Rules.mono:∀ a0 a1 k,LeO (spec_l71Rules.f k a0 a1) (spec_l71Rules.f (k + 1) a0 a1):=by
 intro a0 a1 k
 have ih0:=spec_l71Rules.mono_l k
 unfold spec_l71Rules.f
 repeat' first
   | (with_reducible exact ih0 _ _ _ _)
   | (with_reducible exact spec_l6Rd_pick.mono _ _ _ _)
   | (with_reducible exact spec_l71Rule.mono _ _ _)
   | (with_reducible exact LeO.refl _)
   | (with_reducible exact LeO.none _)
   | (with_reducible refine LeO.ite ?_ ?_)
   | (with_reducible refine LeO.bind ?_ (fun _=>?_))
   | exact ih0 _ _ _ _
   | exact spec_l6Rd_pick.mono _ _ _ _
   | exact spec_l71Rule.mono _ _ _
   | exact LeO.none _
   | refine LeO.ite ?_ ?_
   | refine LeO.bind ?_ (fun _=>?_)
theorem spec_l71Rules.calls (k:Nat) (g:Nat) (s0_0:List Int) (s0_1:Int) (r1:List (S57)) (r2:Int) (w0 w:World) (hI:IsS70 w0 w g s0_0 s0_1) (hB:Below w0.heap.size w0 w) (h:spec_l71Rules.f k s0_0 s0_1 = some (r1,r2)) :
  Calls Try.prog 50 #[.pointer (some ⟨g,0,none⟩)] w fun e w'=>∃ v0_:Value,e = .returned (v0_) ∧ Kd.R k57 57 w' w.heap.size (fun _=>True) v0_ r1 ∧ IsS70 w0 w' g s0_0 r2 ∧ Below w0.heap.size w0 w' ∧ KeepBut w w' g none:=by
 have hu57:=Try.underlying57
 have HI0:=Aside0.mk hI
 have HK:=Aside0.mk (KeepBut.refl w g none)
 have HL:=Aside0.mk hB.size
 clear hI
 have HW0:=Aside0.mk hB.size
 have HB:=Aside0.mk hB
 clear hB
 have H:((spec_l6Rd_pick.f k s0_0 s0_1 5).bind fun bt269=>(spec_l71Rules.l0 k (([]:List (S57))) bt269.1 s0_0 bt269.2)) = some (r1,r2):=h
 clear h
 obtain ⟨y266,hy266⟩:∃ y_:List (S57),y_ = (([]:List (S57))):=⟨_,rfl⟩
 replace H:((spec_l6Rd_pick.f k s0_0 s0_1 5).bind fun bt269=>(spec_l71Rules.l0 k y266 bt269.1 s0_0 bt269.2)) = some (r1,r2):=by first|(rw [hy266];with_reducible exact H)|(have H2_:=(Option.bind_some _ _).symm.trans H;rw [hy266];with_reducible exact H2_)|(have H2_:=(Option.bind_some _ _).symm.trans H;with_reducible exact H2_)|with_reducible exact H|(rw [hy266];exact H)|exact H
 have Ny266:=Aside0.mk hy266
 clear hy266
 replace H:=Option.bind_eq_some_iff.mp H
 obtain ⟨⟨t269,t270⟩,A20,H⟩:=H
 replace H:(spec_l71Rules.l0 k y266 t269 s0_0 t270) = some (r1,r2):=H
 have A2:=Aside0.mk A20
 clear A20
 have H':=Aside0.mk H
 clear H
 go_enter Try.func50,Try.ntmps50
 go_wp2_with (first|((with_reducible refine gate_dst (N:=5) rfl ?_);refine Kd.R_lit k57 _ 57 ?hg (N:=5) ?hd (xs:=([]:List (S57))) (inner:=[]) (ok:=fun _=>True) (okp:=fun _=>True) ?hr ?hp (fun _ hk=>hk) trivial (Below.refl _ _) (Nat.le_refl _) (by simp) ?_;(case hd=>rfl);(case hg=>rfl);(case hr=>first|(go_simp;done)|(go_simp;rfl));(case hp=>exact (Reps.none _ _));intro v267 w3 ho4 hb hg_ hnew_;clear hg_ hnew_;(first|rw [← Ny266.out] at ho4|(simp only [Int.reduceToNat] at ho4;rw [← Ny266.out] at ho4));have n0_:=Aside0.mk (Kd.R_lower ho4 (keep_size (w:=w) (g:=g) (row:=none) (by repeat (first|(with_reducible first|exact HK.out|apply KeepBut.set_|apply keep_drewN|apply keep_drew|apply keep_alloc)|exact HK.out))));have n1_:=Aside0.mk (IsS70.below (by repeat (first|(with_reducible first|exact HI0.out|apply IsS70.alloc|apply IsS70.drewN|apply IsS70.drew|apply IsS70.set_1)|exact HI0.out)) hb);have n2_:=Aside0.mk (KeepBut.trans (by repeat (first|(with_reducible first|exact HK.out|apply KeepBut.set_|apply keep_drewN|apply keep_drew|apply keep_alloc)|exact HK.out)) (KeepBut.of_below hb g none) (.inl rfl));have n3_:=Aside0.mk (below_step (by repeat (first|(with_reducible first|exact HB.out|apply below_alloc|apply pw_below_drewN|apply below_drew1|refine below_set ?_ (IsS70.ge HI0.out))|exact HB.out)) hb);clear HI0;clear HK;clear HB;have HO268:=n0_;have HI0:=n1_;have HK:=n2_;have HB:=n3_;clear n0_ n1_ n2_ n3_;clear hb ho4)|((with_reducible refine gate_callee (f:=36) rfl ?_);refine goesL_ (some 7) rfl rfl Try.func36 (by kernel_rfl) rfl #[.pointer (some ⟨g,0,none⟩), .int .i64 5] rfl (by (try simp only [List.map_toArray,List.map_cons,List.map_nil]);first|done|rfl|(simp only [List.length_drop,List.length_take];rfl)) ?_;(with_reducible refine (spec_l6Rd_pick.calls k g s0_0 s0_1 5 t269 t270 w0 _ ?side1 ?side2 A2.out).mono ?_);(case side1=>repeat (first|(with_reducible first|exact HI0.out|apply IsS70.alloc|apply IsS70.drewN|apply IsS70.drew|apply IsS70.set_1)|exact HI0.out));(case side2=>repeat (first|(with_reducible first|exact HB.out|apply below_alloc|apply pw_below_drewN|apply below_drew1|refine below_set ?_ (IsS70.ge HI0.out))|exact HB.out));rintro e w5 ⟨rfl,hi,hb,hk⟩;refine ⟨_,rfl,?_⟩;have n0_:=Aside0.mk (Kd.R_mono (Kd.R_keep (IsS70.apart (show IsS70 w0 _ g s0_0 s0_1 from by repeat (first|(with_reducible first|exact HI0.out|apply IsS70.alloc|apply IsS70.drewN|apply IsS70.drew|apply IsS70.set_1)|exact HI0.out)) (by (with_reducible repeat (first|apply Kd.R_alloc|apply Kd.R_drewN|apply Kd.R_drew));exact HO268.out) (by decide)) hk (fun _ h=>h.2)) (fun _ h=>h.1));have n1_:=Aside0.mk (KeepBut.trans (by repeat (first|(with_reducible first|exact HK.out|apply KeepBut.set_|apply keep_drewN|apply keep_drew|apply keep_alloc)|exact HK.out)) hk (.inl rfl));have n2_:=Aside0.mk (hb);have n3_:=Aside0.mk (hi);clear HO268;clear HK;clear HB;clear HI0;have HO268:=n0_;have HK:=n1_;have HB:=n2_;have HI0:=n3_;clear n0_ n1_ n2_ n3_;(try clear hb);(try clear hb2);(try clear hk);(try clear hi)))
 go_loopg [3,4] k (fun kq v3 v4 w'=>∃ (x3_1:List (S57)) (x4_1:Int) (x1001_1:Int),v4 = .int .i64 x4_1 ∧ Aside0 (spec_l71Rules.l0 kq x3_1 x4_1 s0_0 x1001_1 = some (r1,r2)) ∧ Aside0 (kq ≤ k) ∧ Aside0 (Kd.R k57 57 w' w.heap.size (fun _=>True) v3 x3_1) ∧ Aside0 (IsS70 w0 w' g s0_0 x1001_1) ∧ Aside0 (KeepBut w w' g none) ∧ Aside0 (Below w0.heap.size w0 w'))
 case atStart=>exact ⟨(y266),(t269),(t270),(by first|rfl|(simp;done)|(simp only [i64_w,i32_w];done)|(simp only [i64_w,i32_w];rfl)|(simp [*];done)|(simp [emp_bne,emp_beq];done)),H',⟨Nat.le_refl _⟩,⟨by (with_reducible repeat (first|apply Kd.R_alloc|apply Kd.R_drewN|apply Kd.R_drew));exact HO268.out⟩,⟨by repeat (first|(with_reducible first|exact HI0.out|apply IsS70.alloc|apply IsS70.drewN|apply IsS70.drew|apply IsS70.set_1)|exact HI0.out)⟩,⟨by repeat (first|(with_reducible first|exact HK.out|apply KeepBut.set_|apply keep_drewN|apply keep_drew|apply keep_alloc)|exact HK.out)⟩,⟨by repeat (first|(with_reducible first|exact HB.out|apply below_alloc|apply pw_below_drewN|apply below_drew1|refine below_set ?_ (IsS70.ge HI0.out))|exact HB.out)⟩⟩
 case round =>
  clear H'
  try clear p2
  try clear c3
  try clear c5
  obtain ⟨x3_1,x4_1,x1001_1,rfl,HA,HK1,HO_3,HI0,HK,HB⟩:=hrel
  cases gk with
  | zero=>exact absurd HA.out (by simp [spec_l71Rules.l0])
  | succ k1 =>
   have H:=HA.out
   clear HA
   simp only [spec_l71Rules.l0] at H
   by_cases c6:x4_1 > 0
   ·rw [if_pos c6] at H
    have c6b0:decide (0 < x4_1) = true:=decide_eq_true c6
    clear c6
    replace H:=Option.bind_eq_some_iff.mp H
    obtain ⟨⟨t271,t272⟩,A70,H⟩:=H
    replace H:((spec_l71Rule.f k1 s0_0 t272).bind fun bt273=>(if x3_1.length < 5864062014805 then (spec_l71Rules.l0 k1 (x3_1 ++ [(⟨(t271 == 0),bt273.1⟩:S57)]) (wrap64 (x4_1 - 1)) s0_0 bt273.2) else (none))) = some (r1,r2):=H
    have A7:=Aside0.mk A70
    clear A70
    replace H:=Option.bind_eq_some_iff.mp H
    obtain ⟨⟨t273,t274⟩,A80,H⟩:=H
    replace H:(if x3_1.length < 5864062014805 then (spec_l71Rules.l0 k1 (x3_1 ++ [(⟨(t271 == 0),t273⟩:S57)]) (wrap64 (x4_1 - 1)) s0_0 t274) else (none)) = some (r1,r2):=H
    have A8:=Aside0.mk A80
    clear A80
    by_cases c9:x3_1.length < 5864062014805
    ·rw [if_pos c9] at H
     have LMc9:=Aside0.mk c9
     clear c9
     obtain ⟨y275,hy275⟩:∃ y_:List (S57),y_ = (x3_1 ++ [(⟨(t271 == 0),t273⟩:S57)]):=⟨_,rfl⟩
     replace H:(spec_l71Rules.l0 k1 y275 (wrap64 (x4_1 - 1)) s0_0 t274) = some (r1,r2):=by first|(rw [hy275];with_reducible exact H)|(have H2_:=(Option.bind_some _ _).symm.trans H;rw [hy275];with_reducible exact H2_)|(have H2_:=(Option.bind_some _ _).symm.trans H;with_reducible exact H2_)|with_reducible exact H|(rw [hy275];exact H)|exact H
     have Ny275:=Aside0.mk hy275
     clear hy275
     have H':=Aside0.mk H
     clear H
     go_wp2_with (first|((with_reducible refine gate_callee (f:=36) rfl ?_);refine goesL_ (some 14) rfl rfl Try.func36 (by kernel_rfl) rfl #[.pointer (some ⟨g,0,none⟩), .int .i64 2] rfl (by (try simp only [List.map_toArray,List.map_cons,List.map_nil]);first|done|rfl|(simp only [List.length_drop,List.length_take];rfl)) ?_;(with_reducible refine (spec_l6Rd_pick.calls k1 g s0_0 x1001_1 2 t271 t272 w0 _ ?side1 ?side2 A7.out).mono ?_);(case side1=>repeat (first|(with_reducible first|exact HI0.out|apply IsS70.alloc|apply IsS70.drewN|apply IsS70.drew|apply IsS70.set_1)|exact HI0.out));(case side2=>repeat (first|(with_reducible first|exact HB.out|apply below_alloc|apply pw_below_drewN|apply below_drew1|refine below_set ?_ (IsS70.ge HI0.out))|exact HB.out));rintro e w10 ⟨rfl,hi,hb,hk⟩;refine ⟨_,rfl,?_⟩;have n0_:=Aside0.mk (Kd.R_mono (Kd.R_keep (IsS70.apart (show IsS70 w0 _ g s0_0 x1001_1 from by repeat (first|(with_reducible first|exact HI0.out|apply IsS70.alloc|apply IsS70.drewN|apply IsS70.drew|apply IsS70.set_1)|exact HI0.out)) (by (with_reducible repeat (first|apply Kd.R_alloc|apply Kd.R_drewN|apply Kd.R_drew));exact HO_3.out) (by decide)) hk (fun _ h=>h.2)) (fun _ h=>h.1));have n1_:=Aside0.mk (KeepBut.trans (by repeat (first|(with_reducible first|exact HK.out|apply KeepBut.set_|apply keep_drewN|apply keep_drew|apply keep_alloc)|exact HK.out)) hk (.inl rfl));have n2_:=Aside0.mk (hb);have n3_:=Aside0.mk (hi);clear HO_3;clear HK;clear HB;clear HI0;have HO_3:=n0_;have HK:=n1_;have HB:=n2_;have HI0:=n3_;clear n0_ n1_ n2_ n3_;(try clear hb);(try clear hb2);(try clear hk);(try clear hi))|((with_reducible refine gate_callee (f:=62) rfl ?_);refine goesL_ (some 17) rfl rfl Try.func62 (by kernel_rfl) rfl #[.pointer (some ⟨g,0,none⟩)] rfl (by (try simp only [List.map_toArray,List.map_cons,List.map_nil]);first|done|rfl|(simp only [List.length_drop,List.length_take];rfl)) ?_;(with_reducible refine (spec_l71Rule.calls k1 g s0_0 t272 t273 t274 w0 _ ?side1 ?side2 A8.out).mono ?_);(case side1=>repeat (first|(with_reducible first|exact HI0.out|apply IsS70.alloc|apply IsS70.drewN|apply IsS70.drew|apply IsS70.set_1)|exact HI0.out));(case side2=>repeat (first|(with_reducible first|exact HB.out|apply below_alloc|apply pw_below_drewN|apply below_drew1|refine below_set ?_ (IsS70.ge HI0.out))|exact HB.out));rintro e w11 ⟨rfl,hi,hb,hk⟩;refine ⟨_,rfl,?_⟩;have n0_:=Aside0.mk (Kd.R_mono (Kd.R_keep (IsS70.apart (show IsS70 w0 _ g s0_0 t272 from by repeat (first|(with_reducible first|exact HI0.out|apply IsS70.alloc|apply IsS70.drewN|apply IsS70.drew|apply IsS70.set_1)|exact HI0.out)) (by (with_reducible repeat (first|apply Kd.R_alloc|apply Kd.R_drewN|apply Kd.R_drew));exact HO_3.out) (by decide)) hk (fun _ h=>h.2)) (fun _ h=>h.1));have n1_:=Aside0.mk (KeepBut.trans (by repeat (first|(with_reducible first|exact HK.out|apply KeepBut.set_|apply keep_drewN|apply keep_drew|apply keep_alloc)|exact HK.out)) hk (.inl rfl));have n2_:=Aside0.mk (hb);have n3_:=Aside0.mk (hi);clear HO_3;clear HK;clear HB;clear HI0;have HO_3:=n0_;have HK:=n1_;have HB:=n2_;have HI0:=n3_;clear n0_ n1_ n2_ n3_;(try clear hb);(try clear hb2);(try clear hk);(try clear hi))|((with_reducible refine gate_builtin (b:=.append) (xs:=#[.tmp 12, .tmp 19]) rfl ?_);at_builtin;refine Kd.R_append k57 w.heap.size rfl (.tmp 12) (.tmp 19) 28 57 (.agg #[(.bool false),(.string ⟨#[]⟩)]) 24 rfl Try.underlying28 info57 rfl (by decide) (by omega) u3 x3_1 (⟨(t271 == 0),t273⟩:S57) [.bool (t271 == 0), .string t273] (fun _=>True) (fun _=>False) rfl rfl ?aP (fun _ hk=>hk.elim) ?aF ?aO (Below.refl _ _) ?aS ?aL ?_;(case aP=>exact k57_mkM _ _ _ (⟨(t271 == 0),t273⟩:S57));(case aF=>exact (fun _ _=>trivial));(case aO=>exact (by (with_reducible repeat (first|apply Kd.R_alloc|apply Kd.R_drewN|apply Kd.R_drew));exact HO_3.out));(case aS=>exact (keep_size (w:=w) (g:=g) (row:=none) (by repeat (first|(with_reducible first|exact HK.out|apply KeepBut.set_|apply keep_drewN|apply keep_drew|apply keep_alloc)|exact HK.out))));(case aL=>have:=LMc9.out;omega);intro v276 w12 ho hb hg hat;rw [← Ny275.out] at ho;have n0_:=Aside0.mk (IsS70.grown (by repeat (first|(with_reducible first|exact HI0.out|apply IsS70.alloc|apply IsS70.drewN|apply IsS70.drew|apply IsS70.set_1)|exact HI0.out)) hg (IsS70.own_ne HI0.out HO_3.out (by decide)));have n1_:=Aside0.mk (below_weaken (by repeat (first|(with_reducible first|exact HB.out|apply below_alloc|apply pw_below_drewN|apply below_drew1|refine below_set ?_ (IsS70.ge HI0.out))|exact HB.out)) HL.out hb);have n2_:=Aside0.mk (KeepBut.trans (by repeat (first|(with_reducible first|exact HK.out|apply KeepBut.set_|apply keep_drewN|apply keep_drew|apply keep_alloc)|exact HK.out)) (KeepBut.of_grown hg g) (Kd.R_base2 HO_3.out));have n3_:=Aside0.mk (ho);clear HI0;clear HB;clear HK;clear HO_3;have HI0:=n0_;have HB:=n1_;have HK:=n2_;have HO277:=n3_;clear n0_ n1_ n2_ n3_;clear ho hb hg hat))
     go_roundg k1
     case measure=>have:=HK1.out;omega
     case rel=>exact ⟨(y275),(wrap64 (x4_1 - 1)),(t274),(by first|rfl|(simp;done)|(simp only [i64_w,i32_w];done)|(simp only [i64_w,i32_w];rfl)|(simp [*];done)|(simp [emp_bne,emp_beq];done)),H',⟨by have:=HK1.out;omega⟩,⟨by (with_reducible repeat (first|apply Kd.R_alloc|apply Kd.R_drewN|apply Kd.R_drew));exact HO277.out⟩,⟨by repeat (first|(with_reducible first|exact HI0.out|apply IsS70.alloc|apply IsS70.drewN|apply IsS70.drew|apply IsS70.set_1)|exact HI0.out)⟩,⟨by repeat (first|(with_reducible first|exact HK.out|apply KeepBut.set_|apply keep_drewN|apply keep_drew|apply keep_alloc)|exact HK.out)⟩,⟨by repeat (first|(with_reducible first|exact HB.out|apply below_alloc|apply pw_below_drewN|apply below_drew1|refine below_set ?_ (IsS70.ge HI0.out))|exact HB.out)⟩⟩
    ·rw [if_neg c9] at H
     exact absurd H (by simp)
   ·rw [if_neg c6] at H
    have c6b0:decide (0 < x4_1) = false:=decide_eq_false c6
    clear c6
    simp only [Option.some.injEq,Prod.mk.injEq] at H
    obtain ⟨rfl,rfl⟩:=H
    go_wp2
    go_ret
    exact ⟨_,by first|rfl|(simp <;> rfl)|(simp [*] <;> rfl),by (with_reducible repeat (first|apply Kd.R_alloc|apply Kd.R_drewN|apply Kd.R_drew));exact HO_3.out,by repeat (first|(with_reducible first|exact HI0.out|apply IsS70.alloc|apply IsS70.drewN|apply IsS70.drew|apply IsS70.set_1)|exact HI0.out),by repeat (first|(with_reducible first|exact HB.out|apply below_alloc|apply pw_below_drewN|apply below_drew1|refine below_set ?_ (IsS70.ge HI0.out))|exact HB.out),by repeat (first|(with_reducible first|exact HK.out|apply KeepBut.set_|apply keep_drewN|apply keep_drew|apply keep_alloc)|exact HK.out)⟩

end Go.Proofs.Ytheakfegchndcaa.P
