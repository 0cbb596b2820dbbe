-- Written by a program of this session (patch_print.py over the kit's print; given texts in wip/given).
import Derived.Test.YtochmlkladpfgaaDoorPx0
import Derived.Test.YtochmlkladpfgaaDoorPx1
import Derived.Test.YtochmlkladpfgaaDoorPx8
import Derived.Test.YtochmlkladpfgaaDoorPx10
namespace Go.Proofs.YtochmlkladpfgaaDoor.P
open Go.RowKit Go.Proofs.YtochmlkladpfgaaDoorW.PrintWords Go.Proofs.YtochmlkladpfgaaDoorW.PrintLast Go.Proofs.YtochmlkladpfgaaDoorW.PrintMore
attribute [local go_sem] max2_int min2_int max_two min_two max_three min_three max_four min_four   -- for this text's walks alone
set_option linter.unusedVariables false
set_option linter.unusedSimpArgs false
set_option maxHeartbeats 8000000
set_option maxRecDepth 100000

/-! ### spec_l6Rd_pick: function 32 -/
def spec_l6Rd_pick.j0:Nat → Int → Bool → List Int → Int → Option (Int × Int)
 | 0,_,_,_,_=>none
 | k + 1,x1,x24,x1000,x1001=>if x24 = true then (some (0,x1001)) else (if (wrap64 (x1001 - 1)) < (x1000.length:Int) then (if 0 ≤ (wrap64 (x1001 - 1)) then (if x1 = 0 then (none) else (some (Int.tmod (wrap64 (rd x1000 (wrap64 (x1001 - 1)))) x1,x1001))) else (none)) else (if (x1000.length:Int) = 0 then (none) else (if 0 ≤ (Int.tmod (wrap64 (x1001 - 1)) (x1000.length:Int)) then (if (Int.tmod (wrap64 (x1001 - 1)) (x1000.length:Int)) < (x1000.length:Int) then (if 0 ≤ (Int.tmod (wrap64 ((wrap64 ((wrap64 (x1001 - 1)) * 7)) + 3)) (x1000.length:Int)) then (if (Int.tmod (wrap64 ((wrap64 ((wrap64 (x1001 - 1)) * 7)) + 3)) (x1000.length:Int)) < (x1000.length:Int) then (if x1 = 0 then (none) else (some (Int.tmod (Go.bits .xor .i64 (wrap64 ((wrap64 ((wrap64 ((wrap64 ((wrap64 (rd x1000 (Int.tmod (wrap64 (x1001 - 1)) (x1000.length:Int)))) * 131)) + (wrap64 ((wrap64 (rd x1000 (Int.tmod (wrap64 ((wrap64 ((wrap64 (x1001 - 1)) * 7)) + 3)) (x1000.length:Int)))) * 1117)))) + (wrap64 ((wrap64 (x1001 - 1)) * 29)))) + (wrap64 ((wrap64 (Int.tdiv (wrap64 (x1001 - 1)) (x1000.length:Int))) * 53)))) (wrap64 (Int.tdiv (wrap64 ((wrap64 ((wrap64 ((wrap64 ((wrap64 (rd x1000 (Int.tmod (wrap64 (x1001 - 1)) (x1000.length:Int)))) * 131)) + (wrap64 ((wrap64 (rd x1000 (Int.tmod (wrap64 ((wrap64 ((wrap64 (x1001 - 1)) * 7)) + 3)) (x1000.length:Int)))) * 1117)))) + (wrap64 ((wrap64 (x1001 - 1)) * 29)))) + (wrap64 ((wrap64 (Int.tdiv (wrap64 (x1001 - 1)) (x1000.length:Int))) * 53)))) 64))) x1,x1001))) else (none)) else (none)) else (none)) else (none))))
def spec_l6Rd_pick.f (k:Nat) (s0_0:List Int) (s0_1:Int) (a1:Int):Option (Int × Int):=if a1 < 1 then (spec_l6Rd_pick.j0 k a1 true s0_0 (wrap64 (s0_1 + 1))) else (spec_l6Rd_pick.j0 k a1 ((s0_0.length:Int) == 0) s0_0 (wrap64 (s0_1 + 1)))
theorem spec_l6Rd_pick.mono_l:∀ k,(∀ y0 y1 y2 y3,LeO (spec_l6Rd_pick.j0 k y0 y1 y2 y3) (spec_l6Rd_pick.j0 (k + 1) y0 y1 y2 y3))
 | 0=>fun _ _ _ _ r h=>by simp [spec_l6Rd_pick.j0] at h
 | k + 1=>by
  have ih0:=spec_l6Rd_pick.mono_l k
  ·intro y0 y1 y2 y3
   unfold spec_l6Rd_pick.j0
   repeat' first
   | (with_reducible exact ih0 _ _ _ _)
   | (with_reducible exact LeO.refl _)
   | (with_reducible exact LeO.none _)
   | (with_reducible refine LeO.ite ?_ ?_)
   | (with_reducible refine LeO.bind ?_ (fun _=>?_))
   | exact ih0 _ _ _ _
   | exact LeO.none _
   | refine LeO.ite ?_ ?_
   | refine LeO.bind ?_ (fun _=>?_)
theorem spec_l6Rd_pick.mono:∀ a0 a1 a2 k,LeO (spec_l6Rd_pick.f k a0 a1 a2) (spec_l6Rd_pick.f (k + 1) a0 a1 a2):=by
 intro a0 a1 a2 k
 have ih0:=spec_l6Rd_pick.mono_l k
 unfold spec_l6Rd_pick.f
 repeat' first
   | (with_reducible exact ih0 _ _ _ _)
   | (with_reducible exact LeO.refl _)
   | (with_reducible exact LeO.none _)
   | (with_reducible refine LeO.ite ?_ ?_)
   | (with_reducible refine LeO.bind ?_ (fun _=>?_))
   | exact ih0 _ _ _ _
   | exact LeO.none _
   | refine LeO.ite ?_ ?_
   | refine LeO.bind ?_ (fun _=>?_)
theorem spec_l6Rd_pick.calls (k:Nat) (g:Nat) (s0_0:List Int) (s0_1:Int) (a1:Int) (r1:Int) (r2:Int) (w0 w:World) (hI:IsS55 w0 w g s0_0 s0_1) (hB:Below w0.heap.size w0 w) (h:spec_l6Rd_pick.f k s0_0 s0_1 a1 = some (r1,r2)) :
  Calls Tryd.prog 32 #[.pointer (some ⟨g,0,none⟩),.int .i64 a1] w fun e w'=>e = .returned (.int .i64 r1) ∧ IsS55 w0 w' g s0_0 r2 ∧ Below w0.heap.size w0 w' ∧ KeepBut w w' g none:=by
 have HI0:=Aside0.mk hI
 have HK:=Aside0.mk (KeepBut.refl w g none)
 have HL:=Aside0.mk hB.size
 clear hI
 have HW0:=Aside0.mk hB.size
 have HB:=Aside0.mk hB
 clear hB
 have H:(if a1 < 1 then (spec_l6Rd_pick.j0 k a1 true s0_0 (wrap64 (s0_1 + 1))) else (spec_l6Rd_pick.j0 k a1 ((s0_0.length:Int) == 0) s0_0 (wrap64 (s0_1 + 1)))) = some (r1,r2):=h
 clear h
 have HC3:=Aside0.mk H
 clear H
 obtain ⟨ASz4_0,cSz4_0,HGz4,hgz4,HSz4_0⟩:=HI0.out
 have hcz4_0:=cellS55_0 HGz4
 have hcz4_1:=cellS55_1 HGz4
 have hfz4_1:=blk_frozen HGz4 1
 clear HGz4 hgz4
 go_enter Tryd.func32,Tryd.ntmps32
 go_upto_region 2 with (fail)
 repeat (go_quiet (fail);go_upto_region 2 with (fail))
 go_cut [24] (fun v24 wc=>∃ (kq:Nat) (x24_2:Bool),v24 = .bool x24_2 ∧ Aside0 (spec_l6Rd_pick.j0 kq a1 x24_2 s0_0 (wrap64 (s0_1 + 1)) = some (r1,r2)) ∧ Aside0 (kq ≤ k) ∧ Aside0 (IsS55 w0 wc g s0_0 (wrap64 (s0_1 + 1))) ∧ Aside0 (KeepBut w wc g none) ∧ Aside0 (Below w0.heap.size w0 wc))
 case first =>
  have H:=HC3.out
  clear HC3
  by_cases c5:a1 < 1
  ·rw [if_pos c5] at H
   have c5b0:decide (a1 < 1) = true:=decide_eq_true c5
   clear c5
   (first|rw [c5b0]|(simp only [i64_w,i32_w];rw [c5b0])|skip)
   have H':=Aside0.mk H
   clear H
   go_wp2
   repeat (go_quiet (fail);try go_wp2)
   go_meet
   case rel=>exact ⟨_,(true),(by first|rfl|(simp;done)|(simp only [i64_w,i32_w];done)|(simp only [i64_w,i32_w];rfl)|(simp [*];done)|(simp [emp_bne,emp_beq];done)),H',⟨by first|omega|exact Nat.le_refl _⟩,⟨by repeat (first|(with_reducible first|exact HI0.out|apply IsS55.alloc|apply IsS55.drewN|apply IsS55.drew|apply IsS55.set_1)|exact HI0.out)⟩,⟨by repeat (first|(with_reducible first|exact HK.out|apply KeepBut.set_|apply keep_drewN|apply keep_drew|apply keep_alloc)|exact HK.out)⟩,⟨by repeat (first|(with_reducible first|exact HB.out|apply below_alloc|apply pw_below_drewN|apply below_drew1|refine below_set ?_ (IsS55.ge HI0.out))|exact HB.out)⟩⟩
  ·rw [if_neg c5] at H
   have c5b0:decide (a1 < 1) = false:=decide_eq_false c5
   clear c5
   (first|rw [c5b0]|(simp only [i64_w,i32_w];rw [c5b0])|skip)
   have H':=Aside0.mk H
   clear H
   obtain ⟨ASz6_0,cSz6_0,HGz6,hgz6,HSz6_0⟩:=HI0.out
   have hcz6_0:=cellS55_0 HGz6
   have hcz6_1:=cellS55_1 HGz6
   have hfz6_1:=blk_frozen HGz6 1
   clear HGz6 hgz6
   go_wp2
   repeat (go_quiet (fail);try go_wp2)
   go_meet
   case rel=>exact ⟨_,(((s0_0.length:Int) == 0)),(by first|rfl|(simp;done)|(simp only [i64_w,i32_w];done)|(simp only [i64_w,i32_w];rfl)|(simp [*];done)|(simp [emp_bne,emp_beq];done)),H',⟨by first|omega|exact Nat.le_refl _⟩,⟨by repeat (first|(with_reducible first|exact HI0.out|apply IsS55.alloc|apply IsS55.drewN|apply IsS55.drew|apply IsS55.set_1)|exact HI0.out)⟩,⟨by repeat (first|(with_reducible first|exact HK.out|apply KeepBut.set_|apply keep_drewN|apply keep_drew|apply keep_alloc)|exact HK.out)⟩,⟨by repeat (first|(with_reducible first|exact HB.out|apply below_alloc|apply pw_below_drewN|apply below_drew1|refine below_set ?_ (IsS55.ge HI0.out))|exact HB.out)⟩⟩
 case rest =>
  clear HC3
  try clear p2
  try clear c3
  try clear c5
  try clear c5b0
  try clear p6
  try clear hcz4_0
  try clear hcz4_1
  try clear hcz6_0
  try clear hcz6_1
  try clear hfz4_1
  try clear hfz6_1
  obtain ⟨kq,x24_2,rfl,HA,HJ2,HI0,HK,HB⟩:=hcut
  cases kq with
  | zero=>exact absurd HA.out (by simp [spec_l6Rd_pick.j0])
  | succ kj2 =>
   have H:=HA.out
   clear HA
   simp only [spec_l6Rd_pick.j0] at H
   by_cases c7:x24_2 = true
   ·subst c7
    have H1:(some (0,(wrap64 (s0_1 + 1)))) = some (r1,r2):=by rw [if_pos rfl] at H;exact H
    clear H
    have H:=H1
    clear H1
    simp only [Option.some.injEq,Prod.mk.injEq] at H
    obtain ⟨rfl,rfl⟩:=H
    go_wp2
    repeat (go_quiet (fail);try go_wp2)
    go_ret
    exact ⟨by first|rfl|(simp <;> rfl)|(simp [*] <;> rfl),by repeat (first|(with_reducible first|exact HI0.out|apply IsS55.alloc|apply IsS55.drewN|apply IsS55.drew|apply IsS55.set_1)|exact HI0.out),by repeat (first|(with_reducible first|exact HB.out|apply below_alloc|apply pw_below_drewN|apply below_drew1|refine below_set ?_ (IsS55.ge HI0.out))|exact HB.out),by repeat (first|(with_reducible first|exact HK.out|apply KeepBut.set_|apply keep_drewN|apply keep_drew|apply keep_alloc)|exact HK.out)⟩
   ·replace c7:=Bool.eq_false_iff.mpr c7
    subst c7
    have H1:(if (wrap64 ((wrap64 (s0_1 + 1)) - 1)) < (s0_0.length:Int) then (if 0 ≤ (wrap64 ((wrap64 (s0_1 + 1)) - 1)) then (if a1 = 0 then (none) else (some (Int.tmod (wrap64 (rd s0_0 (wrap64 ((wrap64 (s0_1 + 1)) - 1)))) a1,(wrap64 (s0_1 + 1))))) else (none)) else (if (s0_0.length:Int) = 0 then (none) else (if 0 ≤ (Int.tmod (wrap64 ((wrap64 (s0_1 + 1)) - 1)) (s0_0.length:Int)) then (if (Int.tmod (wrap64 ((wrap64 (s0_1 + 1)) - 1)) (s0_0.length:Int)) < (s0_0.length:Int) then (if 0 ≤ (Int.tmod (wrap64 ((wrap64 ((wrap64 ((wrap64 (s0_1 + 1)) - 1)) * 7)) + 3)) (s0_0.length:Int)) then (if (Int.tmod (wrap64 ((wrap64 ((wrap64 ((wrap64 (s0_1 + 1)) - 1)) * 7)) + 3)) (s0_0.length:Int)) < (s0_0.length:Int) then (if a1 = 0 then (none) else (some (Int.tmod (Go.bits .xor .i64 (wrap64 ((wrap64 ((wrap64 ((wrap64 ((wrap64 (rd s0_0 (Int.tmod (wrap64 ((wrap64 (s0_1 + 1)) - 1)) (s0_0.length:Int)))) * 131)) + (wrap64 ((wrap64 (rd s0_0 (Int.tmod (wrap64 ((wrap64 ((wrap64 ((wrap64 (s0_1 + 1)) - 1)) * 7)) + 3)) (s0_0.length:Int)))) * 1117)))) + (wrap64 ((wrap64 ((wrap64 (s0_1 + 1)) - 1)) * 29)))) + (wrap64 ((wrap64 (Int.tdiv (wrap64 ((wrap64 (s0_1 + 1)) - 1)) (s0_0.length:Int))) * 53)))) (wrap64 (Int.tdiv (wrap64 ((wrap64 ((wrap64 ((wrap64 ((wrap64 (rd s0_0 (Int.tmod (wrap64 ((wrap64 (s0_1 + 1)) - 1)) (s0_0.length:Int)))) * 131)) + (wrap64 ((wrap64 (rd s0_0 (Int.tmod (wrap64 ((wrap64 ((wrap64 ((wrap64 (s0_1 + 1)) - 1)) * 7)) + 3)) (s0_0.length:Int)))) * 1117)))) + (wrap64 ((wrap64 ((wrap64 (s0_1 + 1)) - 1)) * 29)))) + (wrap64 ((wrap64 (Int.tdiv (wrap64 ((wrap64 (s0_1 + 1)) - 1)) (s0_0.length:Int))) * 53)))) 64))) a1,(wrap64 (s0_1 + 1))))) else (none)) else (none)) else (none)) else (none)))) = some (r1,r2):=by rw [if_neg (show ¬ (false = true) by decide)] at H;exact H
    clear H
    have H:=H1
    clear H1
    by_cases c8:(wrap64 ((wrap64 (s0_1 + 1)) - 1)) < (s0_0.length:Int)
    ·rw [if_pos c8] at H
     have c8b0:decide ((wrap64 ((wrap64 (s0_1 + 1)) - 1)) < (s0_0.length:Int)) = true:=decide_eq_true c8
     clear c8
     obtain ⟨ji9,hji9⟩:∃ j_:Int,(wrap64 ((wrap64 (s0_1 + 1)) - 1)) = j_:=⟨_,rfl⟩
     replace H:(if 0 ≤ (ji9) then (if a1 = 0 then (none) else (some (Int.tmod (wrap64 (rd s0_0 (ji9))) a1,(wrap64 (s0_1 + 1))))) else (none)) = some (r1,r2):=by first|(rw [hji9] at H;exact H)|(simp only [hji9] at H ⊢;exact H)
     (try rw [hji9] at c8b0)
     have hji9w:(IntKind.i64.wrap ((wrap64 (s0_1 + 1)) - 1)) = ji9:=(i64_w _).trans hji9
     by_cases c10:0 ≤ (ji9)
     ·rw [if_pos c10] at H
      have c10b0:decide (0 ≤ (ji9)) = true:=decide_eq_true c10
      clear c10
      by_cases c11:a1 = 0
      ·rw [if_pos c11] at H
       exact absurd H (by simp)
      ·rw [if_neg c11] at H
       have c11b0:(a1 == 0) = false:=beq_eq_false_iff_ne.mpr c11
       have c11b1:(a1 != 0) = true:=bne_iff_ne.mpr c11
       simp only [Option.some.injEq,Prod.mk.injEq] at H
       obtain ⟨rfl,rfl⟩:=H
       obtain ⟨ASz12_0,cSz12_0,HGz12,hgz12,HSz12_0⟩:=HI0.out
       have hcz12_0:=cellS55_0 HGz12
       have hcz12_1:=cellS55_1 HGz12
       have hfz12_1:=blk_frozen HGz12 1
       clear HGz12 hgz12
       have p341:0 ≤ ((ji9):Int):=of_decide_eq_true (by first|(with_reducible assumption)|assumption)
       have q341:(ji9) < (s0_0.length:Int):=of_decide_eq_true (by first|(with_reducible assumption)|assumption)
       obtain ⟨ad341,e341,hx341_0⟩:=Kd.at_int HSz12_0 (ji9) p341 q341
       cases e341
       replace hx341_0:=pw_cell_below HB.out hx341_0
       replace p341:=eq_true p341
       replace q341:=eq_true q341
       go_wp2
       repeat (go_quiet (fail);try go_wp2)
       go_ret
       exact ⟨by first|rfl|(simp <;> rfl)|(simp only [← hji9];first|rfl|(simp <;> rfl))|(simp [*] <;> rfl),by repeat (first|(with_reducible first|exact HI0.out|apply IsS55.alloc|apply IsS55.drewN|apply IsS55.drew|apply IsS55.set_1)|exact HI0.out),by repeat (first|(with_reducible first|exact HB.out|apply below_alloc|apply pw_below_drewN|apply below_drew1|refine below_set ?_ (IsS55.ge HI0.out))|exact HB.out),by repeat (first|(with_reducible first|exact HK.out|apply KeepBut.set_|apply keep_drewN|apply keep_drew|apply keep_alloc)|exact HK.out)⟩
     ·rw [if_neg c10] at H
      exact absurd H (by simp)
    ·rw [if_neg c8] at H
     have c8b0:decide ((wrap64 ((wrap64 (s0_1 + 1)) - 1)) < (s0_0.length:Int)) = false:=decide_eq_false c8
     clear c8
     by_cases c13:(s0_0.length:Int) = 0
     ·rw [if_pos c13] at H
      exact absurd H (by simp)
     ·rw [if_neg c13] at H
      have c13b0:((s0_0.length:Int) == 0) = false:=beq_eq_false_iff_ne.mpr c13
      have c13b1:((s0_0.length:Int) != 0) = true:=bne_iff_ne.mpr c13
      have c13b2:¬ (s0_0 = []):=fun h_=>c13 (by rw [h_];rfl)
      obtain ⟨ji14,hji14⟩:∃ j_:Int,(Int.tmod (wrap64 ((wrap64 (s0_1 + 1)) - 1)) (s0_0.length:Int)) = j_:=⟨_,rfl⟩
      replace H:(if 0 ≤ (ji14) then (if (ji14) < (s0_0.length:Int) then (if 0 ≤ (Int.tmod (wrap64 ((wrap64 ((wrap64 ((wrap64 (s0_1 + 1)) - 1)) * 7)) + 3)) (s0_0.length:Int)) then (if (Int.tmod (wrap64 ((wrap64 ((wrap64 ((wrap64 (s0_1 + 1)) - 1)) * 7)) + 3)) (s0_0.length:Int)) < (s0_0.length:Int) then (if a1 = 0 then (none) else (some (Int.tmod (Go.bits .xor .i64 (wrap64 ((wrap64 ((wrap64 ((wrap64 ((wrap64 (rd s0_0 (ji14))) * 131)) + (wrap64 ((wrap64 (rd s0_0 (Int.tmod (wrap64 ((wrap64 ((wrap64 ((wrap64 (s0_1 + 1)) - 1)) * 7)) + 3)) (s0_0.length:Int)))) * 1117)))) + (wrap64 ((wrap64 ((wrap64 (s0_1 + 1)) - 1)) * 29)))) + (wrap64 ((wrap64 (Int.tdiv (wrap64 ((wrap64 (s0_1 + 1)) - 1)) (s0_0.length:Int))) * 53)))) (wrap64 (Int.tdiv (wrap64 ((wrap64 ((wrap64 ((wrap64 ((wrap64 (rd s0_0 (ji14))) * 131)) + (wrap64 ((wrap64 (rd s0_0 (Int.tmod (wrap64 ((wrap64 ((wrap64 ((wrap64 (s0_1 + 1)) - 1)) * 7)) + 3)) (s0_0.length:Int)))) * 1117)))) + (wrap64 ((wrap64 ((wrap64 (s0_1 + 1)) - 1)) * 29)))) + (wrap64 ((wrap64 (Int.tdiv (wrap64 ((wrap64 (s0_1 + 1)) - 1)) (s0_0.length:Int))) * 53)))) 64))) a1,(wrap64 (s0_1 + 1))))) else (none)) else (none)) else (none)) else (none)) = some (r1,r2):=by first|(rw [hji14] at H;exact H)|(simp only [hji14] at H ⊢;exact H)
      by_cases c15:0 ≤ (ji14)
      ·rw [if_pos c15] at H
       have c15b0:decide (0 ≤ (ji14)) = true:=decide_eq_true c15
       clear c15
       by_cases c16:(ji14) < (s0_0.length:Int)
       ·rw [if_pos c16] at H
        have c16b0:decide ((ji14) < (s0_0.length:Int)) = true:=decide_eq_true c16
        clear c16
        obtain ⟨ji17,hji17⟩:∃ j_:Int,(Int.tmod (wrap64 ((wrap64 ((wrap64 ((wrap64 (s0_1 + 1)) - 1)) * 7)) + 3)) (s0_0.length:Int)) = j_:=⟨_,rfl⟩
        replace H:(if 0 ≤ (ji17) then (if (ji17) < (s0_0.length:Int) then (if a1 = 0 then (none) else (some (Int.tmod (Go.bits .xor .i64 (wrap64 ((wrap64 ((wrap64 ((wrap64 ((wrap64 (rd s0_0 (ji14))) * 131)) + (wrap64 ((wrap64 (rd s0_0 (ji17))) * 1117)))) + (wrap64 ((wrap64 ((wrap64 (s0_1 + 1)) - 1)) * 29)))) + (wrap64 ((wrap64 (Int.tdiv (wrap64 ((wrap64 (s0_1 + 1)) - 1)) (s0_0.length:Int))) * 53)))) (wrap64 (Int.tdiv (wrap64 ((wrap64 ((wrap64 ((wrap64 ((wrap64 (rd s0_0 (ji14))) * 131)) + (wrap64 ((wrap64 (rd s0_0 (ji17))) * 1117)))) + (wrap64 ((wrap64 ((wrap64 (s0_1 + 1)) - 1)) * 29)))) + (wrap64 ((wrap64 (Int.tdiv (wrap64 ((wrap64 (s0_1 + 1)) - 1)) (s0_0.length:Int))) * 53)))) 64))) a1,(wrap64 (s0_1 + 1))))) else (none)) else (none)) = some (r1,r2):=by first|(rw [hji17] at H;exact H)|(simp only [hji17] at H ⊢;exact H)
        by_cases c18:0 ≤ (ji17)
        ·rw [if_pos c18] at H
         have c18b0:decide (0 ≤ (ji17)) = true:=decide_eq_true c18
         clear c18
         by_cases c19:(ji17) < (s0_0.length:Int)
         ·rw [if_pos c19] at H
          have c19b0:decide ((ji17) < (s0_0.length:Int)) = true:=decide_eq_true c19
          clear c19
          by_cases c20:a1 = 0
          ·rw [if_pos c20] at H
           exact absurd H (by simp)
          ·rw [if_neg c20] at H
           have c20b0:(a1 == 0) = false:=beq_eq_false_iff_ne.mpr c20
           have c20b1:(a1 != 0) = true:=bne_iff_ne.mpr c20
           simp only [Option.some.injEq,Prod.mk.injEq] at H
           obtain ⟨rfl,rfl⟩:=H
           obtain ⟨ASz21_0,cSz21_0,HGz21,hgz21,HSz21_0⟩:=HI0.out
           have hcz21_0:=cellS55_0 HGz21
           have hcz21_1:=cellS55_1 HGz21
           have hfz21_1:=blk_frozen HGz21 1
           clear HGz21 hgz21
           have p342:0 ≤ ((ji14):Int):=of_decide_eq_true (by first|(with_reducible assumption)|assumption)
           have q342:(ji14) < (s0_0.length:Int):=of_decide_eq_true (by first|(with_reducible assumption)|assumption)
           obtain ⟨ad342,e342,hx342_0⟩:=Kd.at_int HSz21_0 (ji14) p342 q342
           cases e342
           replace hx342_0:=pw_cell_below HB.out hx342_0
           replace p342:=eq_true p342
           replace q342:=eq_true q342
           have p343:0 ≤ ((ji17):Int):=of_decide_eq_true (by first|(with_reducible assumption)|assumption)
           have q343:(ji17) < (s0_0.length:Int):=of_decide_eq_true (by first|(with_reducible assumption)|assumption)
           obtain ⟨ad343,e343,hx343_0⟩:=Kd.at_int HSz21_0 (ji17) p343 q343
           obtain rfl:ad342 = ad343:=(by injection e343)
           replace hx343_0:=pw_cell_below HB.out hx343_0
           replace p343:=eq_true p343
           replace q343:=eq_true q343
           go_wp2
           repeat (go_quiet (fail);try go_wp2)
           go_ret
           exact ⟨by first|rfl|(simp <;> rfl)|(simp only [← hji14,← hji17];first|rfl|(simp <;> rfl))|(simp [*] <;> rfl),by repeat (first|(with_reducible first|exact HI0.out|apply IsS55.alloc|apply IsS55.drewN|apply IsS55.drew|apply IsS55.set_1)|exact HI0.out),by repeat (first|(with_reducible first|exact HB.out|apply below_alloc|apply pw_below_drewN|apply below_drew1|refine below_set ?_ (IsS55.ge HI0.out))|exact HB.out),by repeat (first|(with_reducible first|exact HK.out|apply KeepBut.set_|apply keep_drewN|apply keep_drew|apply keep_alloc)|exact HK.out)⟩
         ·rw [if_neg c19] at H
          exact absurd H (by simp)
        ·rw [if_neg c18] at H
         exact absurd H (by simp)
       ·rw [if_neg c16] at H
        exact absurd H (by simp)
      ·rw [if_neg c15] at H
       exact absurd H (by simp)

/-! ### spec_l6Rd_of: function 34 -/
def spec_l6Rd_of.f (k:Nat) (s0_0:List Int) (s0_1:Int) (l1:List ByteArray):Option (ByteArray × Int):=(spec_l6Rd_pick.f k s0_0 s0_1 (l1.length:Int)).bind fun bt344=>(if 0 ≤ bt344.1 then (if bt344.1 < (l1.length:Int) then (some (rdOf ByteArray.empty l1 bt344.1,bt344.2)) else (none)) else (none))
theorem spec_l6Rd_of.mono:∀ a0 a1 a2 k,LeO (spec_l6Rd_of.f k a0 a1 a2) (spec_l6Rd_of.f (k + 1) a0 a1 a2):=by
 intro a0 a1 a2 k
 unfold spec_l6Rd_of.f
 repeat' first
   | (with_reducible exact spec_l6Rd_pick.mono _ _ _ _)
   | (with_reducible exact LeO.refl _)
   | (with_reducible exact LeO.none _)
   | (with_reducible refine LeO.ite ?_ ?_)
   | (with_reducible refine LeO.bind ?_ (fun _=>?_))
   | exact spec_l6Rd_pick.mono _ _ _ _
   | exact LeO.none _
   | refine LeO.ite ?_ ?_
   | refine LeO.bind ?_ (fun _=>?_)
theorem spec_l6Rd_of.calls (k:Nat) (g:Nat) (s0_0:List Int) (s0_1:Int) (A1:Option Addr) (c1:Nat) (l1:List ByteArray) (r1:ByteArray) (r2:Int) (w0 w:World) (hI:IsS55 w0 w g s0_0 s0_1) (hB:Below w0.heap.size w0 w) (hr1:Kd.C Kd.string w A1 l1.length l1) (hc1:l1.length ≤ c1) (hf1:∀ ad,A1 = some ad → 0 < l1.length → ad.block ≠ g) (h:spec_l6Rd_of.f k s0_0 s0_1 l1 = some (r1,r2)) :
  Calls Tryd.prog 34 #[.pointer (some ⟨g,0,none⟩),.slice A1 l1.length c1] w fun e w'=>e = .returned (.string r1) ∧ IsS55 w0 w' g s0_0 r2 ∧ Below w0.heap.size w0 w' ∧ KeepBut w w' g none:=by
 have HR1:=Aside0.mk hr1
 have HC1:=Aside0.mk hc1
 clear hr1 hc1
 have HI0:=Aside0.mk hI
 have HK:=Aside0.mk (KeepBut.refl w g none)
 have HL:=Aside0.mk hB.size
 clear hI
 have HW0:=Aside0.mk hB.size
 have HB:=Aside0.mk hB
 clear hB
 have H:((spec_l6Rd_pick.f k s0_0 s0_1 (l1.length:Int)).bind fun bt344=>(if 0 ≤ bt344.1 then (if bt344.1 < (l1.length:Int) then (some (rdOf ByteArray.empty l1 bt344.1,bt344.2)) else (none)) else (none))) = some (r1,r2):=h
 clear h
 replace H:=Option.bind_eq_some_iff.mp H
 obtain ⟨⟨t344,t345⟩,A30,H⟩:=H
 replace H:(if 0 ≤ t344 then (if t344 < (l1.length:Int) then (some (rdOf ByteArray.empty l1 t344,t345)) else (none)) else (none)) = some (r1,r2):=H
 have A3:=Aside0.mk A30
 clear A30
 by_cases c4:0 ≤ t344
 ·rw [if_pos c4] at H
  have c4b0:decide (0 ≤ t344) = true:=decide_eq_true c4
  clear c4
  by_cases c5:t344 < (l1.length:Int)
  ·rw [if_pos c5] at H
   have c5b0:decide (t344 < (l1.length:Int)) = true:=decide_eq_true c5
   clear c5
   simp only [Option.some.injEq,Prod.mk.injEq] at H
   obtain ⟨rfl,rfl⟩:=H
   go_enter Tryd.func34,Tryd.ntmps34
   go_wp2_with (first|((with_reducible refine gate_callee (f:=32) rfl ?_);refine goesL_ (some 9) rfl rfl Tryd.func32 (by kernel_rfl) rfl #[.pointer (some ⟨g,0,none⟩),.int .i64 (l1.length:Int)] rfl (by (try simp only [List.map_toArray,List.map_cons,List.map_nil]);first|done|rfl|(simp only [List.length_drop,List.length_take];rfl)) ?_;(with_reducible refine (spec_l6Rd_pick.calls k g s0_0 s0_1 (l1.length:Int) t344 t345 w0 _ ?side1 ?side2 A3.out).mono ?_);(case side1=>repeat (first|(with_reducible first|exact HI0.out|apply IsS55.alloc|apply IsS55.drewN|apply IsS55.drew|apply IsS55.set_1)|exact HI0.out));(case side2=>repeat (first|(with_reducible first|exact HB.out|apply below_alloc|apply pw_below_drewN|apply below_drew1|refine below_set ?_ (IsS55.ge HI0.out))|exact HB.out));rintro e w6 ⟨rfl,hi,hb,hk⟩;refine ⟨_,rfl,?_⟩;have n0_:=Aside0.mk (KeepBut.trans (by repeat (first|(with_reducible first|exact HK.out|apply KeepBut.set_|apply keep_drewN|apply keep_drew|apply keep_alloc)|exact HK.out)) hk (.inl rfl));have n1_:=Aside0.mk (hb);have n2_:=Aside0.mk (hi);clear HK;clear HB;clear HI0;have HK:=n0_;have HB:=n1_;have HI0:=n2_;clear n0_ n1_ n2_;(try clear hb);(try clear hb2);(try clear hk);(try clear hi);have p346:0 ≤ (t344:Int):=of_decide_eq_true (by first|(with_reducible assumption)|assumption);have q346:t344 < (l1.length:Int):=of_decide_eq_true (by first|(with_reducible assumption)|assumption);obtain ⟨ad346,e346,hx346_0⟩:=Kd.at_string HR1.out t344 p346 q346;cases e346;replace hx346_0:=keep_cell HK.out hx346_0 (by first|(rw [add_block];exact hf1 _ rfl (by omega))|exact hf1 _ rfl (by omega)|exact hf1 ad346 rfl (by omega));replace p346:=eq_true p346;replace q346:=eq_true q346))
   go_ret
   exact ⟨by first|rfl|(simp <;> rfl)|(simp [*] <;> rfl),by repeat (first|(with_reducible first|exact HI0.out|apply IsS55.alloc|apply IsS55.drewN|apply IsS55.drew|apply IsS55.set_1)|exact HI0.out),by repeat (first|(with_reducible first|exact HB.out|apply below_alloc|apply pw_below_drewN|apply below_drew1|refine below_set ?_ (IsS55.ge HI0.out))|exact HB.out),by repeat (first|(with_reducible first|exact HK.out|apply KeepBut.set_|apply keep_drewN|apply keep_drew|apply keep_alloc)|exact HK.out)⟩
  ·rw [if_neg c5] at H
   exact absurd H (by simp)
 ·rw [if_neg c4] at H
  exact absurd H (by simp)

/-! ### spec_AddrText: function 15 -/
def spec_AddrText.f (k:Nat) (a0_0:ByteArray) (l0_1:List ByteArray) (a0_2:Bool) (a0_3:ByteArray):Option (ByteArray):=(spec_AddrOk.f k a0_0 l0_1 a0_2 a0_3).bind fun t348=>(if t348 = true then ((spec_l1Text.f k a0_0 l0_1 a0_2 a0_3).bind fun t349=>(some t349)) else (some (⟨#[]⟩:ByteArray)))
theorem spec_AddrText.mono:∀ a0 a1 a2 a3 k,LeO (spec_AddrText.f k a0 a1 a2 a3) (spec_AddrText.f (k + 1) a0 a1 a2 a3):=by
 intro a0 a1 a2 a3 k
 unfold spec_AddrText.f
 repeat' first
   | (with_reducible exact spec_AddrOk.mono _ _ _ _ _)
   | (with_reducible exact spec_l1Text.mono _ _ _ _ _)
   | (with_reducible exact LeO.refl _)
   | (with_reducible exact LeO.none _)
   | (with_reducible refine LeO.ite ?_ ?_)
   | (with_reducible refine LeO.bind ?_ (fun _=>?_))
   | exact spec_AddrOk.mono _ _ _ _ _
   | exact spec_l1Text.mono _ _ _ _ _
   | exact LeO.none _
   | refine LeO.ite ?_ ?_
   | refine LeO.bind ?_ (fun _=>?_)
theorem spec_AddrText.calls (k:Nat) (a0_0:ByteArray) (A0_1:Option Addr) (c0_1:Nat) (l0_1:List ByteArray) (a0_2:Bool) (a0_3:ByteArray) (r:ByteArray) (w:World) (hr0_1:Kd.C Kd.string w A0_1 l0_1.length l0_1) (hc0_1:l0_1.length ≤ c0_1) (h:spec_AddrText.f k a0_0 l0_1 a0_2 a0_3 = some r) :
  Calls Tryd.prog 15 #[.agg #[.string a0_0,.slice A0_1 l0_1.length c0_1,.bool a0_2,.string a0_3]] w fun e w'=>e = .returned (.string r) ∧ Below w.heap.size w w':=by
 have hu24:=Tryd.underlying24
 have HR0_1:=Aside0.mk hr0_1
 have HC0_1:=Aside0.mk hc0_1
 clear hr0_1 hc0_1
 have HB:=Aside0.mk (Below.refl w.heap.size w)
 have H:((spec_AddrOk.f k a0_0 l0_1 a0_2 a0_3).bind fun t348=>(if t348 = true then ((spec_l1Text.f k a0_0 l0_1 a0_2 a0_3).bind fun t349=>(some t349)) else (some (⟨#[]⟩:ByteArray)))) = some r:=h
 clear h
 replace H:=Option.bind_eq_some_iff.mp H
 obtain ⟨t348,A20,H⟩:=H
 replace H:(if t348 = true then ((spec_l1Text.f k a0_0 l0_1 a0_2 a0_3).bind fun t349=>(some t349)) else (some (⟨#[]⟩:ByteArray))) = some r:=H
 have A2:=Aside0.mk A20
 clear A20
 by_cases c3:t348 = true
 ·subst c3
  have H1:((spec_l1Text.f k a0_0 l0_1 a0_2 a0_3).bind fun t349=>(some t349)) = some r:=by rw [if_pos rfl] at H;exact H
  clear H
  have H:=H1
  clear H1
  replace H:=Option.bind_eq_some_iff.mp H
  obtain ⟨t349,A40,H⟩:=H
  replace H:(some t349) = some r:=H
  have A4:=Aside0.mk A40
  clear A40
  obtain rfl:=Option.some.inj H
  go_enter Tryd.func15,Tryd.ntmps15
  go_wp2_with (first|((with_reducible refine gate_dst (N:=1) rfl ?_);refine box_event ?hg (N:=1) ?hd (cs:=#[.string a0_0,.slice A0_1 l0_1.length c0_1,.bool a0_2,.string a0_3]) (t:=24) ?hr ?_;(case hd=>rfl);(case hg=>rfl);(case hr=>first|(go_simp;done)|(go_simp;rfl));intro gb347 hg w5 hbox hb;have n0_:=Aside0.mk (below_step (by repeat (first|(with_reducible first|exact HB.out|apply below_alloc|apply pw_below_drewN|apply below_drew1)|exact HB.out)) hb);have n1_:=Aside0.mk (hbox);have n2_:=Aside0.mk ((by rw [hg];exact (below_size (by repeat (first|(with_reducible first|exact HB.out|apply below_alloc|apply pw_below_drewN|apply below_drew1)|exact HB.out))):w.heap.size ≤ gb347));have n3_:=n2_;clear HB;have HB:=n0_;have BK347:=n1_;have GW347:=n2_;have GE347:=n3_;clear n0_ n1_ n2_ n3_;clear hb hbox hg;have hcz6_0:w5.cell? ⟨gb347,0,none⟩ = some (.string a0_0):=(blk_cell BK347.out 0).trans rfl;have hcz6_1:w5.cell? ⟨gb347,1,none⟩ = some (.slice A0_1 l0_1.length c0_1):=(blk_cell BK347.out 1).trans rfl;have hcz6_2:w5.cell? ⟨gb347,2,none⟩ = some (.bool a0_2):=(blk_cell BK347.out 2).trans rfl;have hcz6_3:w5.cell? ⟨gb347,3,none⟩ = some (.string a0_3):=(blk_cell BK347.out 3).trans rfl;have hfz6_0:=blk_frozen BK347.out 0;have hfz6_1:=blk_frozen BK347.out 1;have hfz6_2:=blk_frozen BK347.out 2;have hfz6_3:=blk_frozen BK347.out 3)|((with_reducible refine gate_callee (f:=29) rfl ?_);refine goesL_ (some 4) rfl rfl Tryd.func29 (by kernel_rfl) rfl #[.agg #[.string a0_0,.slice A0_1 l0_1.length c0_1,.bool a0_2,.string a0_3]] rfl (by (try simp only [List.map_toArray,List.map_cons,List.map_nil]);first|done|rfl|(simp only [List.length_drop,List.length_take];rfl)) ?_;(with_reducible refine (spec_AddrOk.calls k a0_0 _ _ l0_1 a0_2 a0_3 true _ ?side1 ?side2 A2.out).mono ?_);(case side1=>repeat (first|exact (Kd.C_below HR0_1.out HB.out)|(with_reducible refine Kd.C_alloc ?_ _)|(with_reducible refine Kd.C_drewN ?_ _)|(with_reducible refine Kd.C_drew ?_)));(case side2=>exact HC0_1.out);rintro e w7 ⟨rfl,hb⟩;refine ⟨_,rfl,?_⟩;have n0_:=Aside0.mk (blk_below (g:=gb347) (o:=.cells #[.string a0_0,.slice A0_1 l0_1.length c0_1,.bool a0_2,.string a0_3] 24 (0,0)) (by (with_reducible repeat (first|refine blk_drewN ?_ _|refine blk_drew ?_|refine blk_alloc ?_ _));exact BK347.out) hb);have n1_:=Aside0.mk (below_step (by repeat (first|(with_reducible first|exact HB.out|apply below_alloc|apply pw_below_drewN|apply below_drew1|refine below_set ?_ GE347.out)|exact HB.out)) hb);clear BK347;clear HB;have BK347:=n0_;have HB:=n1_;clear n0_ n1_;(try clear hb);(try clear hb2);(try clear hk);(try clear hi);have hcz8_0:w7.cell? ⟨gb347,0,none⟩ = some (.string a0_0):=(blk_cell BK347.out 0).trans rfl;have hcz8_1:w7.cell? ⟨gb347,1,none⟩ = some (.slice A0_1 l0_1.length c0_1):=(blk_cell BK347.out 1).trans rfl;have hcz8_2:w7.cell? ⟨gb347,2,none⟩ = some (.bool a0_2):=(blk_cell BK347.out 2).trans rfl;have hcz8_3:w7.cell? ⟨gb347,3,none⟩ = some (.string a0_3):=(blk_cell BK347.out 3).trans rfl;have hfz8_0:=blk_frozen BK347.out 0;have hfz8_1:=blk_frozen BK347.out 1;have hfz8_2:=blk_frozen BK347.out 2;have hfz8_3:=blk_frozen BK347.out 3)|((with_reducible refine gate_callee (f:=30) rfl ?_);refine goesL_ (some 7) rfl rfl Tryd.func30 (by kernel_rfl) rfl #[.agg #[.string a0_0,.slice A0_1 l0_1.length c0_1,.bool a0_2,.string a0_3]] rfl (by (try simp only [List.map_toArray,List.map_cons,List.map_nil]);first|done|rfl|(simp only [List.length_drop,List.length_take];rfl)) ?_;(with_reducible refine (spec_l1Text.calls k a0_0 _ _ l0_1 a0_2 a0_3 t349 _ ?side1 ?side2 A4.out).mono ?_);(case side1=>repeat (first|exact (Kd.C_below HR0_1.out HB.out)|(with_reducible refine Kd.C_alloc ?_ _)|(with_reducible refine Kd.C_drewN ?_ _)|(with_reducible refine Kd.C_drew ?_)));(case side2=>exact HC0_1.out);rintro e w9 ⟨rfl,hb⟩;refine ⟨_,rfl,?_⟩;have n0_:=Aside0.mk (blk_below (g:=gb347) (o:=.cells #[.string a0_0,.slice A0_1 l0_1.length c0_1,.bool a0_2,.string a0_3] 24 (0,0)) (by (with_reducible repeat (first|refine blk_drewN ?_ _|refine blk_drew ?_|refine blk_alloc ?_ _));exact BK347.out) hb);have n1_:=Aside0.mk (below_step (by repeat (first|(with_reducible first|exact HB.out|apply below_alloc|apply pw_below_drewN|apply below_drew1|refine below_set ?_ GE347.out)|exact HB.out)) hb);clear BK347;clear HB;have BK347:=n0_;have HB:=n1_;clear n0_ n1_;(try clear hb);(try clear hb2);(try clear hk);(try clear hi)))
  go_ret
  exact ⟨by first|rfl|(simp <;> rfl)|(simp [*] <;> rfl),by repeat (first|(with_reducible first|exact HB.out|apply below_alloc|apply pw_below_drewN|apply below_drew1|refine below_set ?_ GE347.out)|exact HB.out)⟩
 ·replace c3:=Bool.eq_false_iff.mpr c3
  subst c3
  have H1:(some (⟨#[]⟩:ByteArray)) = some r:=by rw [if_neg (show ¬ (false = true) by decide)] at H;exact H
  clear H
  have H:=H1
  clear H1
  obtain rfl:=Option.some.inj H
  go_enter Tryd.func15,Tryd.ntmps15
  go_wp2_with (first|((with_reducible refine gate_dst (N:=1) rfl ?_);refine box_event ?hg (N:=1) ?hd (cs:=#[.string a0_0,.slice A0_1 l0_1.length c0_1,.bool a0_2,.string a0_3]) (t:=24) ?hr ?_;(case hd=>rfl);(case hg=>rfl);(case hr=>first|(go_simp;done)|(go_simp;rfl));intro gb347 hg w10 hbox hb;have n0_:=Aside0.mk (below_step (by repeat (first|(with_reducible first|exact HB.out|apply below_alloc|apply pw_below_drewN|apply below_drew1)|exact HB.out)) hb);have n1_:=Aside0.mk (hbox);have n2_:=Aside0.mk ((by rw [hg];exact (below_size (by repeat (first|(with_reducible first|exact HB.out|apply below_alloc|apply pw_below_drewN|apply below_drew1)|exact HB.out))):w.heap.size ≤ gb347));have n3_:=n2_;clear HB;have HB:=n0_;have BK347:=n1_;have GW347:=n2_;have GE347:=n3_;clear n0_ n1_ n2_ n3_;clear hb hbox hg;have hcz11_0:w10.cell? ⟨gb347,0,none⟩ = some (.string a0_0):=(blk_cell BK347.out 0).trans rfl;have hcz11_1:w10.cell? ⟨gb347,1,none⟩ = some (.slice A0_1 l0_1.length c0_1):=(blk_cell BK347.out 1).trans rfl;have hcz11_2:w10.cell? ⟨gb347,2,none⟩ = some (.bool a0_2):=(blk_cell BK347.out 2).trans rfl;have hcz11_3:w10.cell? ⟨gb347,3,none⟩ = some (.string a0_3):=(blk_cell BK347.out 3).trans rfl;have hfz11_0:=blk_frozen BK347.out 0;have hfz11_1:=blk_frozen BK347.out 1;have hfz11_2:=blk_frozen BK347.out 2;have hfz11_3:=blk_frozen BK347.out 3)|((with_reducible refine gate_callee (f:=29) rfl ?_);refine goesL_ (some 4) rfl rfl Tryd.func29 (by kernel_rfl) rfl #[.agg #[.string a0_0,.slice A0_1 l0_1.length c0_1,.bool a0_2,.string a0_3]] rfl (by (try simp only [List.map_toArray,List.map_cons,List.map_nil]);first|done|rfl|(simp only [List.length_drop,List.length_take];rfl)) ?_;(with_reducible refine (spec_AddrOk.calls k a0_0 _ _ l0_1 a0_2 a0_3 false _ ?side1 ?side2 A2.out).mono ?_);(case side1=>repeat (first|exact (Kd.C_below HR0_1.out HB.out)|(with_reducible refine Kd.C_alloc ?_ _)|(with_reducible refine Kd.C_drewN ?_ _)|(with_reducible refine Kd.C_drew ?_)));(case side2=>exact HC0_1.out);rintro e w12 ⟨rfl,hb⟩;refine ⟨_,rfl,?_⟩;have n0_:=Aside0.mk (blk_below (g:=gb347) (o:=.cells #[.string a0_0,.slice A0_1 l0_1.length c0_1,.bool a0_2,.string a0_3] 24 (0,0)) (by (with_reducible repeat (first|refine blk_drewN ?_ _|refine blk_drew ?_|refine blk_alloc ?_ _));exact BK347.out) hb);have n1_:=Aside0.mk (below_step (by repeat (first|(with_reducible first|exact HB.out|apply below_alloc|apply pw_below_drewN|apply below_drew1|refine below_set ?_ GE347.out)|exact HB.out)) hb);clear BK347;clear HB;have BK347:=n0_;have HB:=n1_;clear n0_ n1_;(try clear hb);(try clear hb2);(try clear hk);(try clear hi)))
  go_ret
  exact ⟨by first|rfl|(simp <;> rfl)|(simp [*] <;> rfl),by repeat (first|(with_reducible first|exact HB.out|apply below_alloc|apply pw_below_drewN|apply below_drew1|refine below_set ?_ GE347.out)|exact HB.out)⟩

/-! ### spec_l71Houses: function 65 -/
def spec_l71Houses.f :Option (List ByteArray):=some (([(⟨#[97,98]⟩:ByteArray),(⟨#[99,100]⟩:ByteArray),(⟨#[101]⟩:ByteArray),(⟨#[102,111,120]⟩:ByteArray)]:List ByteArray))
theorem spec_l71Houses.calls  (r:List ByteArray) (w:World) (h:spec_l71Houses.f  = some r) :
  Calls Tryd.prog 65 #[] w fun e w'=>∃ v0_:Value,e = .returned (v0_) ∧ Kd.R Kd.string 9 w' w.heap.size (fun _=>True) v0_ r ∧ Below w.heap.size w w':=by
 have HB:=Aside0.mk (Below.refl w.heap.size w)
 have H:(some (([(⟨#[97,98]⟩:ByteArray),(⟨#[99,100]⟩:ByteArray),(⟨#[101]⟩:ByteArray),(⟨#[102,111,120]⟩:ByteArray)]:List ByteArray))) = some r:=h
 clear h
 obtain ⟨y350,hy350⟩:∃ y_:List ByteArray,y_ = (([(⟨#[97,98]⟩:ByteArray),(⟨#[99,100]⟩:ByteArray),(⟨#[101]⟩:ByteArray),(⟨#[102,111,120]⟩:ByteArray)]:List ByteArray)):=⟨_,rfl⟩
 replace H:(some y350) = some r:=by first|(rw [hy350];with_reducible exact H)|(have H2_:=(Option.bind_some _ _).symm.trans H;rw [hy350];with_reducible exact H2_)|(have H2_:=(Option.bind_some _ _).symm.trans H;with_reducible exact H2_)|with_reducible exact H|(rw [hy350];exact H)|exact H
 have Ny350:=Aside0.mk hy350
 clear hy350
 obtain rfl:=Option.some.inj H
 go_enter Tryd.func65,Tryd.ntmps65
 go_wp2_with (first|((with_reducible refine gate_dst (N:=1) rfl ?_);refine Kd.R_lit Kd.string _ 9 ?hg (N:=1) ?hd (xs:=([(⟨#[97,98]⟩:ByteArray),(⟨#[99,100]⟩:ByteArray),(⟨#[101]⟩:ByteArray),(⟨#[102,111,120]⟩:ByteArray)]:List ByteArray)) (inner:=[.string (⟨#[97,98]⟩:ByteArray),.string (⟨#[99,100]⟩:ByteArray),.string (⟨#[101]⟩:ByteArray),.string (⟨#[102,111,120]⟩:ByteArray)]) (ok:=fun _=>True) (okp:=fun _=>True) ?hr ?hp (fun _ hk=>hk) trivial (Below.refl _ _) (Nat.le_refl _) (by simp) ?_;(case hd=>rfl);(case hg=>rfl);(case hr=>first|(go_simp;done)|(go_simp;rfl));(case hp=>exact (Reps.one (show Kd.M Kd.string _ _ _ (⟨#[97,98]⟩:ByteArray) [.string (⟨#[97,98]⟩:ByteArray)] from rfl) (Reps.one (show Kd.M Kd.string _ _ _ (⟨#[99,100]⟩:ByteArray) [.string (⟨#[99,100]⟩:ByteArray)] from rfl) (Reps.one (show Kd.M Kd.string _ _ _ (⟨#[101]⟩:ByteArray) [.string (⟨#[101]⟩:ByteArray)] from rfl) (Reps.one (show Kd.M Kd.string _ _ _ (⟨#[102,111,120]⟩:ByteArray) [.string (⟨#[102,111,120]⟩:ByteArray)] from rfl) (Reps.none _ _))))));intro v351 w1 ho2 hb hg_ hnew_;clear hg_ hnew_;(first|rw [← Ny350.out] at ho2|(simp only [Int.reduceToNat] at ho2;rw [← Ny350.out] at ho2));have n0_:=Aside0.mk (Kd.R_lower ho2 (below_size (by repeat (first|(with_reducible first|exact HB.out|apply below_alloc|apply pw_below_drewN|apply below_drew1)|exact HB.out))));have n1_:=Aside0.mk (below_step (by repeat (first|(with_reducible first|exact HB.out|apply below_alloc|apply pw_below_drewN|apply below_drew1)|exact HB.out)) hb);clear HB;have HO352:=n0_;have HB:=n1_;clear n0_ n1_;clear hb ho2))
 go_ret
 exact ⟨_,by first|rfl|(simp <;> rfl)|(simp [*] <;> rfl),by (with_reducible repeat (first|apply Kd.R_alloc|apply Kd.R_drewN|apply Kd.R_drew));exact HO352.out,by repeat (first|(with_reducible first|exact HB.out|apply below_alloc|apply pw_below_drewN|apply below_drew1)|exact HB.out)⟩

/-! ### spec_l71Addr: function 46 -/
def spec_l71Addr.l0:Nat → Int → List Int → Int → ByteArray → List ByteArray → Bool → ByteArray → Option (ByteArray × Int)
 | 0,_,_,_,_,_,_,_=>none
 | k + 1,x4,x1000,x1001,x360000,x360001,x360002,x360003=>if x4 > 0 then ((spec_l6Rd_of.f k x1000 x1001 (([(⟨#[97]⟩:ByteArray),(⟨#[98]⟩:ByteArray),(⟨#[99]⟩:ByteArray),(⟨#[110,111,116,105,99,101]⟩:ByteArray)]:List ByteArray))).bind fun bt365=>(if x360001.length < 8796093022208 then (spec_l71Addr.l0 k (wrap64 (x4 - 1)) x1000 bt365.2 x360000 (x360001 ++ [bt365.1]) x360002 x360003) else (none))) else ((spec_l6Rd_pick.f k x1000 x1001 8).bind fun bt370=>(if bt370.1 = 0 then ((spec_l6Rd_of.f k x1000 bt370.2 (([(⟨#[]⟩:ByteArray),(⟨#[97]⟩:ByteArray),(⟨#[98,37,51,68]⟩:ByteArray)]:List ByteArray))).bind fun bt375=>((spec_AddrText.f k x360000 x360001 true bt375.1).bind fun t377=>(some (t377,bt375.2)))) else ((spec_AddrText.f k x360000 x360001 x360002 x360003).bind fun t378=>(some (t378,bt370.2)))))
def spec_l71Addr.f (k:Nat) (s0_0:List Int) (s0_1:Int):Option (ByteArray × Int):=(spec_l71Houses.f).bind fun t353=>((spec_l6Rd_pick.f k s0_0 s0_1 4).bind fun bt356=>(if 0 ≤ bt356.1 then (if bt356.1 < (t353.length:Int) then ((spec_l6Rd_pick.f k s0_0 bt356.2 3).bind fun bt360=>(spec_l71Addr.l0 k bt360.1 s0_0 bt360.2 (rdOf ByteArray.empty t353 bt356.1) ([]:List ByteArray) false (⟨#[]⟩:ByteArray))) else (none)) else (none)))
theorem spec_l71Addr.mono_l:∀ k,(∀ y0 y1 y2 y3 y4 y5 y6,LeO (spec_l71Addr.l0 k y0 y1 y2 y3 y4 y5 y6) (spec_l71Addr.l0 (k + 1) y0 y1 y2 y3 y4 y5 y6))
 | 0=>fun _ _ _ _ _ _ _ r h=>by simp [spec_l71Addr.l0] at h
 | k + 1=>by
  have ih0:=spec_l71Addr.mono_l k
  ·intro y0 y1 y2 y3 y4 y5 y6
   unfold spec_l71Addr.l0
   repeat' first
   | (with_reducible exact ih0 _ _ _ _ _ _ _)
   | (with_reducible exact spec_AddrText.mono _ _ _ _ _)
   | (with_reducible exact spec_l6Rd_of.mono _ _ _ _)
   | (with_reducible exact spec_l6Rd_pick.mono _ _ _ _)
   | (with_reducible exact LeO.refl _)
   | (with_reducible exact LeO.none _)
   | (with_reducible refine LeO.ite ?_ ?_)
   | (with_reducible refine LeO.bind ?_ (fun _=>?_))
   | exact ih0 _ _ _ _ _ _ _
   | exact spec_AddrText.mono _ _ _ _ _
   | exact spec_l6Rd_of.mono _ _ _ _
   | exact spec_l6Rd_pick.mono _ _ _ _
   | exact LeO.none _
   | refine LeO.ite ?_ ?_
   | refine LeO.bind ?_ (fun _=>?_)
theorem spec_l71Addr.mono:∀ a0 a1 k,LeO (spec_l71Addr.f k a0 a1) (spec_l71Addr.f (k + 1) a0 a1):=by
 intro a0 a1 k
 have ih0:=spec_l71Addr.mono_l k
 unfold spec_l71Addr.f
 repeat' first
   | (with_reducible exact ih0 _ _ _ _ _ _ _)
   | (with_reducible exact spec_AddrText.mono _ _ _ _ _)
   | (with_reducible exact spec_l6Rd_of.mono _ _ _ _)
   | (with_reducible exact spec_l6Rd_pick.mono _ _ _ _)
   | (with_reducible exact LeO.refl _)
   | (with_reducible exact LeO.none _)
   | (with_reducible refine LeO.ite ?_ ?_)
   | (with_reducible refine LeO.bind ?_ (fun _=>?_))
   | exact ih0 _ _ _ _ _ _ _
   | exact spec_AddrText.mono _ _ _ _ _
   | exact spec_l6Rd_of.mono _ _ _ _
   | exact spec_l6Rd_pick.mono _ _ _ _
   | exact LeO.none _
   | refine LeO.ite ?_ ?_
   | refine LeO.bind ?_ (fun _=>?_)
def spec_l71Addr.T5:Bool × List (List Nat × List Nat):=(true,[([],[]),([0],[0]),([],[]),([],[]),([2,3],[2,3]),([4],[4]),([1,5,4],[1,5]),([0,1,2,3,4,5,6],[]),([7,6,6,0,1,2,3,4,5,6],[6,7])])
def spec_l71Addr.B5:List Nat:=[0,1,0,0,12,28,63,127,255]
theorem spec_l71Addr.tab5:rtab .any (opsOf Tryd.f46 5) = spec_l71Addr.T5:=by kernel_rfl
theorem spec_l71Addr.bits5:waitsOk spec_l71Addr.T5.2 spec_l71Addr.B5 = true:=by kernel_rfl
theorem spec_l71Addr.calls (k:Nat) (g:Nat) (s0_0:List Int) (s0_1:Int) (r1:ByteArray) (r2:Int) (w0 w:World) (hI:IsS55 w0 w g s0_0 s0_1) (hB:Below w0.heap.size w0 w) (h:spec_l71Addr.f k s0_0 s0_1 = some (r1,r2)) :
  Calls Tryd.prog 46 #[.pointer (some ⟨g,0,none⟩)] w fun e w'=>e = .returned (.string r1) ∧ IsS55 w0 w' g s0_0 r2 ∧ Below w0.heap.size w0 w' ∧ KeepBut w w' g none:=by
 have hu24:=Tryd.underlying24
 have HI0:=Aside0.mk hI
 have HK:=Aside0.mk (KeepBut.refl w g none)
 have HL:=Aside0.mk hB.size
 clear hI
 have HW0:=Aside0.mk hB.size
 have HB:=Aside0.mk hB
 clear hB
 have H:((spec_l71Houses.f).bind fun t353=>((spec_l6Rd_pick.f k s0_0 s0_1 4).bind fun bt356=>(if 0 ≤ bt356.1 then (if bt356.1 < (t353.length:Int) then ((spec_l6Rd_pick.f k s0_0 bt356.2 3).bind fun bt360=>(spec_l71Addr.l0 k bt360.1 s0_0 bt360.2 (rdOf ByteArray.empty t353 bt356.1) ([]:List ByteArray) false (⟨#[]⟩:ByteArray))) else (none)) else (none)))) = some (r1,r2):=h
 clear h
 replace H:=Option.bind_eq_some_iff.mp H
 obtain ⟨t353,A20,H⟩:=H
 replace H:((spec_l6Rd_pick.f k s0_0 s0_1 4).bind fun bt356=>(if 0 ≤ bt356.1 then (if bt356.1 < (t353.length:Int) then ((spec_l6Rd_pick.f k s0_0 bt356.2 3).bind fun bt360=>(spec_l71Addr.l0 k bt360.1 s0_0 bt360.2 (rdOf ByteArray.empty t353 bt356.1) ([]:List ByteArray) false (⟨#[]⟩:ByteArray))) else (none)) else (none))) = some (r1,r2):=H
 have A2:=Aside0.mk A20
 clear A20
 replace H:=Option.bind_eq_some_iff.mp H
 obtain ⟨⟨t356,t357⟩,A30,H⟩:=H
 replace H:(if 0 ≤ t356 then (if t356 < (t353.length:Int) then ((spec_l6Rd_pick.f k s0_0 t357 3).bind fun bt360=>(spec_l71Addr.l0 k bt360.1 s0_0 bt360.2 (rdOf ByteArray.empty t353 t356) ([]:List ByteArray) false (⟨#[]⟩:ByteArray))) else (none)) else (none)) = some (r1,r2):=H
 have A3:=Aside0.mk A30
 clear A30
 by_cases c4:0 ≤ t356
 ·rw [if_pos c4] at H
  have c4b0:decide (0 ≤ t356) = true:=decide_eq_true c4
  clear c4
  by_cases c5:t356 < (t353.length:Int)
  ·rw [if_pos c5] at H
   have c5b0:decide (t356 < (t353.length:Int)) = true:=decide_eq_true c5
   clear c5
   replace H:=Option.bind_eq_some_iff.mp H
   obtain ⟨⟨t360,t361⟩,A60,H⟩:=H
   replace H:(spec_l71Addr.l0 k t360 s0_0 t361 (rdOf ByteArray.empty t353 t356) ([]:List ByteArray) false (⟨#[]⟩:ByteArray)) = some (r1,r2):=H
   have A6:=Aside0.mk A60
   clear A60
   have H':=Aside0.mk H
   clear H
   go_enter Tryd.func46,Tryd.ntmps46
   go_wp2_with (first|((with_reducible refine gate_callee (f:=65) rfl ?_);refine goesL_ (some 5) rfl rfl Tryd.func65 (by kernel_rfl) rfl #[] rfl (by (try simp only [List.map_toArray,List.map_cons,List.map_nil]);first|done|rfl|(simp only [List.length_drop,List.length_take];rfl)) ?_;(with_reducible refine (spec_l71Houses.calls  t353 _ A2.out).mono ?_);rintro e w7 ⟨v354,rfl,ho0,hb⟩;refine ⟨_,rfl,?_⟩;have n0_:=Aside0.mk (Kd.R_lower ho0 (keep_size (w:=w) (g:=g) (row:=none) (by repeat (first|(with_reducible first|exact HK.out|apply KeepBut.set_|apply keep_drewN|apply keep_drew|apply keep_alloc)|exact HK.out))));have n1_:=Aside0.mk (IsS55.below (by repeat (first|(with_reducible first|exact HI0.out|apply IsS55.alloc|apply IsS55.drewN|apply IsS55.drew|apply IsS55.set_1)|exact HI0.out)) hb);have n2_:=Aside0.mk (KeepBut.trans (by repeat (first|(with_reducible first|exact HK.out|apply KeepBut.set_|apply keep_drewN|apply keep_drew|apply keep_alloc)|exact HK.out)) (KeepBut.of_below hb g none) (.inl rfl));have n3_:=Aside0.mk (below_step (by repeat (first|(with_reducible first|exact HB.out|apply below_alloc|apply pw_below_drewN|apply below_drew1|refine below_set ?_ (IsS55.ge HI0.out))|exact HB.out)) hb);clear HI0;clear HK;clear HB;have HO355:=n0_;have HI0:=n1_;have HK:=n2_;have HB:=n3_;clear n0_ n1_ n2_ n3_;(try clear hb);(try clear hb2);(try clear hk);(try clear hi);(try clear ho0))|((with_reducible refine gate_callee (f:=32) rfl ?_);refine goesL_ (some 7) rfl rfl Tryd.func32 (by kernel_rfl) rfl #[.pointer (some ⟨g,0,none⟩),.int .i64 4] rfl (by (try simp only [List.map_toArray,List.map_cons,List.map_nil]);first|done|rfl|(simp only [List.length_drop,List.length_take];rfl)) ?_;(with_reducible refine (spec_l6Rd_pick.calls k g s0_0 s0_1 4 t356 t357 w0 _ ?side1 ?side2 A3.out).mono ?_);(case side1=>repeat (first|(with_reducible first|exact HI0.out|apply IsS55.alloc|apply IsS55.drewN|apply IsS55.drew|apply IsS55.set_1)|exact HI0.out));(case side2=>repeat (first|(with_reducible first|exact HB.out|apply below_alloc|apply pw_below_drewN|apply below_drew1|refine below_set ?_ (IsS55.ge HI0.out))|exact HB.out));rintro e w8 ⟨rfl,hi,hb,hk⟩;refine ⟨_,rfl,?_⟩;have n0_:=Aside0.mk (Kd.R_mono (Kd.R_keep (IsS55.apart (show IsS55 w0 _ g s0_0 s0_1 from by repeat (first|(with_reducible first|exact HI0.out|apply IsS55.alloc|apply IsS55.drewN|apply IsS55.drew|apply IsS55.set_1)|exact HI0.out)) (by (with_reducible repeat (first|apply Kd.R_alloc|apply Kd.R_drewN|apply Kd.R_drew));exact HO355.out) (by decide)) hk (fun _ h=>h.2)) (fun _ h=>h.1));have n1_:=Aside0.mk (KeepBut.trans (by repeat (first|(with_reducible first|exact HK.out|apply KeepBut.set_|apply keep_drewN|apply keep_drew|apply keep_alloc)|exact HK.out)) hk (.inl rfl));have n2_:=Aside0.mk (hb);have n3_:=Aside0.mk (hi);clear HO355;clear HK;clear HB;clear HI0;have HO355:=n0_;have HK:=n1_;have HB:=n2_;have HI0:=n3_;clear n0_ n1_ n2_ n3_;(try clear hb);(try clear hb2);(try clear hk);(try clear hi);obtain ⟨Ao9,co9,eo9⟩:=Kd.R_slice HO355.out;subst eo9;have p358:0 ≤ (t356:Int):=of_decide_eq_true (by first|(with_reducible assumption)|assumption);have q358:t356 < (t353.length:Int):=of_decide_eq_true (by first|(with_reducible assumption)|assumption);obtain ⟨ad358,e358,hx358_0⟩:=Kd.at_string (Kd.R_reads' HO355.out).2.2 t356 p358 q358;cases e358;replace p358:=eq_true p358;replace q358:=eq_true q358)|((with_reducible refine gate_dst (N:=3) rfl ?_);refine box_event ?hg (N:=3) ?hd (cs:=#[.string (⟨#[]⟩:ByteArray),.slice none 0 0,.bool false,.string (⟨#[]⟩:ByteArray)]) (t:=24) ?hr ?_;(case hd=>rfl);(case hg=>rfl);(case hr=>first|(go_simp;done)|(go_simp;rfl));intro gb359 hg w10 hbox hb;have n0_:=Aside0.mk (Kd.R_below (by (with_reducible repeat (first|apply Kd.R_alloc|apply Kd.R_drewN|apply Kd.R_drew));exact HO355.out) hb);have n1_:=Aside0.mk (IsS55.below (by repeat (first|(with_reducible first|exact HI0.out|apply IsS55.alloc|apply IsS55.drewN|apply IsS55.drew|apply IsS55.set_1)|exact HI0.out)) hb);have n2_:=Aside0.mk (KeepBut.trans (by repeat (first|(with_reducible first|exact HK.out|apply KeepBut.set_|apply keep_drewN|apply keep_drew|apply keep_alloc)|exact HK.out)) (KeepBut.of_below hb g none) (.inl rfl));have n3_:=Aside0.mk (below_step (by repeat (first|(with_reducible first|exact HB.out|apply below_alloc|apply pw_below_drewN|apply below_drew1|refine below_set ?_ (IsS55.ge HI0.out))|exact HB.out)) hb);have n4_:=Aside0.mk (hbox);have n5_:=Aside0.mk ((by rw [hg];exact (keep_size (w:=w) (g:=g) (row:=none) (by repeat (first|(with_reducible first|exact HK.out|apply KeepBut.set_|apply keep_drewN|apply keep_drew|apply keep_alloc)|exact HK.out))):w.heap.size ≤ gb359));have n6_:=Aside0.mk ((Nat.le_trans HW0.out (by rw [hg];exact (keep_size (w:=w) (g:=g) (row:=none) (by repeat (first|(with_reducible first|exact HK.out|apply KeepBut.set_|apply keep_drewN|apply keep_drew|apply keep_alloc)|exact HK.out))):w.heap.size ≤ gb359):w0.heap.size ≤ gb359));have n7_:=Aside0.mk ((by rw [hg];exact Nat.ne_of_lt (IsS55.lt (show IsS55 w0 _ g s0_0 t357 from by repeat (first|(with_reducible first|exact HI0.out|apply IsS55.alloc|apply IsS55.drewN|apply IsS55.drew|apply IsS55.set_1)|exact HI0.out))):g ≠ gb359));have n8_:=Aside0.mk ((by rw [hg];exact Nat.ne_of_gt (IsS55.lt (show IsS55 w0 _ g s0_0 t357 from by repeat (first|(with_reducible first|exact HI0.out|apply IsS55.alloc|apply IsS55.drewN|apply IsS55.drew|apply IsS55.set_1)|exact HI0.out))):gb359 ≠ g));clear HO355;clear HI0;clear HK;clear HB;have HO355:=n0_;have HI0:=n1_;have HK:=n2_;have HB:=n3_;have BK359:=n4_;have GW359:=n5_;have GE359:=n6_;have NB0_359:=n7_;have NB359_0:=n8_;clear n0_ n1_ n2_ n3_ n4_ n5_ n6_ n7_ n8_;clear hb hbox hg;have hnb11:=NB359_0.out;have hnc11:=NB0_359.out;have hcz12_0:w10.cell? ⟨gb359,0,none⟩ = some (.string (⟨#[]⟩:ByteArray)):=(blk_cell BK359.out 0).trans rfl;have hcz12_1:w10.cell? ⟨gb359,1,none⟩ = some (.slice none 0 0):=(blk_cell BK359.out 1).trans rfl;have hcz12_2:w10.cell? ⟨gb359,2,none⟩ = some (.bool false):=(blk_cell BK359.out 2).trans rfl;have hcz12_3:w10.cell? ⟨gb359,3,none⟩ = some (.string (⟨#[]⟩:ByteArray)):=(blk_cell BK359.out 3).trans rfl;have hfz12_0:=blk_frozen BK359.out 0;have hfz12_1:=blk_frozen BK359.out 1;have hfz12_2:=blk_frozen BK359.out 2;have hfz12_3:=blk_frozen BK359.out 3)|((with_reducible refine gate_callee (f:=32) rfl ?_);refine goesL_ (some 12) rfl rfl Tryd.func32 (by kernel_rfl) rfl #[.pointer (some ⟨g,0,none⟩),.int .i64 3] rfl (by (try simp only [List.map_toArray,List.map_cons,List.map_nil]);first|done|rfl|(simp only [List.length_drop,List.length_take];rfl)) ?_;(with_reducible refine (spec_l6Rd_pick.calls k g s0_0 t357 3 t360 t361 w0 _ ?side1 ?side2 A6.out).mono ?_);(case side1=>repeat (first|(with_reducible first|exact HI0.out|apply IsS55.alloc|apply IsS55.drewN|apply IsS55.drew|apply IsS55.set_1|refine IsS55.far ?_ NB0_359.out _)|exact HI0.out));(case side2=>repeat (first|(with_reducible first|exact HB.out|apply below_alloc|apply pw_below_drewN|apply below_drew1|refine below_set ?_ (IsS55.ge HI0.out)|refine below_set ?_ GE359.out)|exact HB.out));rintro e w13 ⟨rfl,hi,hb,hk⟩;refine ⟨_,rfl,?_⟩;have n0_:=Aside0.mk (Kd.R_mono (Kd.R_keep (IsS55.apart (show IsS55 w0 _ g s0_0 t357 from by repeat (first|(with_reducible first|exact HI0.out|apply IsS55.alloc|apply IsS55.drewN|apply IsS55.drew|apply IsS55.set_1|refine IsS55.far ?_ NB0_359.out _)|exact HI0.out)) (by (with_reducible repeat (first|apply Kd.R_alloc|apply Kd.R_drewN|apply Kd.R_drew));exact (Kd.R_mono (Kd.R_far (p:=⟨gb359,3,none⟩) (Kd.R_far (p:=⟨gb359,2,none⟩) (Kd.R_far (p:=⟨gb359,1,none⟩) (Kd.R_far (p:=⟨gb359,0,none⟩) (Kd.R_types HO355.out BK359.out (by decide)) (fun _ hk=>hk.2) (.string (rdOf ByteArray.empty t353 t356))) (fun _ hk=>hk.2) (.slice none 0 0)) (fun _ hk=>hk.2) (.bool false)) (fun _ hk=>hk.2) (.string (⟨#[]⟩:ByteArray))) (fun _ h_=>h_.1))) (by decide)) hk (fun _ h=>h.2)) (fun _ h=>h.1));have n1_:=Aside0.mk (KeepBut.blk hk (g':=gb359) (o:=.cells #[.string (rdOf ByteArray.empty t353 t356),.slice none 0 0,.bool false,.string (⟨#[]⟩:ByteArray)] 24 (0,0)) (by (with_reducible repeat (first|refine blk_drewN ?_ _|refine blk_drew ?_|refine blk_alloc ?_ _));refine blk_put (cs:=#[.string (rdOf ByteArray.empty t353 t356),.slice none 0 0,.bool false,.string (⟨#[]⟩:ByteArray)]) ?_ 3 _ rfl;(with_reducible repeat (first|refine blk_drewN ?_ _|refine blk_drew ?_|refine blk_alloc ?_ _));refine blk_put (cs:=#[.string (rdOf ByteArray.empty t353 t356),.slice none 0 0,.bool false,.string (⟨#[]⟩:ByteArray)]) ?_ 2 _ rfl;(with_reducible repeat (first|refine blk_drewN ?_ _|refine blk_drew ?_|refine blk_alloc ?_ _));refine blk_put (cs:=#[.string (rdOf ByteArray.empty t353 t356),.slice none 0 0,.bool false,.string (⟨#[]⟩:ByteArray)]) ?_ 1 _ rfl;(with_reducible repeat (first|refine blk_drewN ?_ _|refine blk_drew ?_|refine blk_alloc ?_ _));refine blk_put (cs:=#[.string (⟨#[]⟩:ByteArray),.slice none 0 0,.bool false,.string (⟨#[]⟩:ByteArray)]) ?_ 0 _ rfl;(with_reducible repeat (first|refine blk_drewN ?_ _|refine blk_drew ?_|refine blk_alloc ?_ _));exact BK359.out) NB359_0.out (by simp));have n2_:=Aside0.mk (KeepBut.trans (by repeat (first|(with_reducible first|exact HK.out|apply KeepBut.set_|apply keep_drewN|apply keep_drew|apply keep_alloc|refine keep_far ?_ GW359.out _)|exact HK.out)) hk (.inl rfl));have n3_:=Aside0.mk (hb);have n4_:=Aside0.mk (hi);clear HO355;clear BK359;clear HK;clear HB;clear HI0;have HO355:=n0_;have BK359:=n1_;have HK:=n2_;have HB:=n3_;have HI0:=n4_;clear n0_ n1_ n2_ n3_ n4_;(try clear hb);(try clear hb2);(try clear hk);(try clear hi)))
   go_loopg [4] k (fun kq v4 w'=>∃ (x4_1:Int) (x1001_1:Int) (x360001_1:List ByteArray) (u360001:Value),v4 = .int .i64 x4_1 ∧ Aside0 (spec_l71Addr.l0 kq x4_1 s0_0 x1001_1 (rdOf ByteArray.empty t353 t356) x360001_1 false (⟨#[]⟩:ByteArray) = some (r1,r2)) ∧ Aside0 (kq ≤ k) ∧ Aside0 (Kd.R Kd.string 9 w' w.heap.size (fun _=>True) u360001 x360001_1) ∧ Aside0 (w'.heap[gb359]? = some (.cells #[.string (rdOf ByteArray.empty t353 t356),u360001,.bool false,.string (⟨#[]⟩:ByteArray)] 24 (0,0))) ∧ Aside0 (IsS55 w0 w' g s0_0 x1001_1) ∧ Aside0 (KeepBut w w' g none) ∧ Aside0 (Below w0.heap.size w0 w'))
   case atStart=>exact ⟨(t360),(t361),(([]:List ByteArray)),(.slice none 0 0),(by first|rfl|(simp;done)|(simp only [i64_w,i32_w];done)|(simp only [i64_w,i32_w];rfl)|(simp [*];done)|(simp [emp_bne,emp_beq];done)),H',⟨Nat.le_refl _⟩,⟨by first|exact Kd.R_nil _ _ _ _ _|exact Kd.N_nil _ _ _ _ _|exact Kd.V_nil _ _ _ _ _|exact Kd.Q_nil _ _ _ _ _|exact Kd.S_nil _ _ _ _ _⟩,⟨by (with_reducible repeat (first|refine blk_drewN ?_ _|refine blk_drew ?_|refine blk_alloc ?_ _));exact BK359.out⟩,⟨by repeat (first|(with_reducible first|exact HI0.out|apply IsS55.alloc|apply IsS55.drewN|apply IsS55.drew|apply IsS55.set_1|refine IsS55.far ?_ NB0_359.out _)|exact HI0.out)⟩,⟨by repeat (first|(with_reducible first|exact HK.out|apply KeepBut.set_|apply keep_drewN|apply keep_drew|apply keep_alloc|refine keep_far ?_ GW359.out _)|exact HK.out)⟩,⟨by repeat (first|(with_reducible first|exact HB.out|apply below_alloc|apply pw_below_drewN|apply below_drew1|refine below_set ?_ (IsS55.ge HI0.out)|refine below_set ?_ GE359.out)|exact HB.out)⟩⟩
   case round =>
    clear H'
    try clear c1
    try clear p2
    try clear c3
    try clear p3
    try clear q3
    try clear hx3
    try clear c4
    try clear c4b0
    try clear c5
    try clear c5b0
    try clear c6
    try clear c11
    try clear hcz12_0
    try clear hcz12_1
    try clear hcz12_2
    try clear hcz12_3
    try clear hfz12_0
    try clear hfz12_1
    try clear hfz12_2
    try clear hfz12_3
    try clear hx358_0
    try clear p358
    try clear q358
    obtain ⟨x4_1,x1001_1,x360001_1,u360001,rfl,HA,HK1,HO_360001,BK359,HI0,HK,HB⟩:=hrel
    cases gk with
    | zero=>exact absurd HA.out (by simp [spec_l71Addr.l0])
    | succ k1 =>
     have H:=HA.out
     clear HA
     simp only [spec_l71Addr.l0] at H
     by_cases c14:x4_1 > 0
     ·rw [if_pos c14] at H
      have c14b0:decide (0 < x4_1) = true:=decide_eq_true c14
      clear c14
      obtain ⟨y362,hy362⟩:∃ y_:List ByteArray,y_ = (([(⟨#[97]⟩:ByteArray),(⟨#[98]⟩:ByteArray),(⟨#[99]⟩:ByteArray),(⟨#[110,111,116,105,99,101]⟩:ByteArray)]:List ByteArray)):=⟨_,rfl⟩
      replace H:((spec_l6Rd_of.f k1 s0_0 x1001_1 y362).bind fun bt365=>(if x360001_1.length < 8796093022208 then (spec_l71Addr.l0 k1 (wrap64 (x4_1 - 1)) s0_0 bt365.2 (rdOf ByteArray.empty t353 t356) (x360001_1 ++ [bt365.1]) false (⟨#[]⟩:ByteArray)) else (none))) = some (r1,r2):=by first|(rw [hy362];with_reducible exact H)|(have H2_:=(Option.bind_some _ _).symm.trans H;rw [hy362];with_reducible exact H2_)|(have H2_:=(Option.bind_some _ _).symm.trans H;with_reducible exact H2_)|with_reducible exact H|(rw [hy362];exact H)|exact H
      have Ny362:=Aside0.mk hy362
      clear hy362
      replace H:=Option.bind_eq_some_iff.mp H
      obtain ⟨⟨t365,t366⟩,A150,H⟩:=H
      replace H:(if x360001_1.length < 8796093022208 then (spec_l71Addr.l0 k1 (wrap64 (x4_1 - 1)) s0_0 t366 (rdOf ByteArray.empty t353 t356) (x360001_1 ++ [t365]) false (⟨#[]⟩:ByteArray)) else (none)) = some (r1,r2):=H
      have A15:=Aside0.mk A150
      clear A150
      by_cases c16:x360001_1.length < 8796093022208
      ·rw [if_pos c16] at H
       have LMc16:=Aside0.mk c16
       clear c16
       obtain ⟨y367,hy367⟩:∃ y_:List ByteArray,y_ = (x360001_1 ++ [t365]):=⟨_,rfl⟩
       replace H:(spec_l71Addr.l0 k1 (wrap64 (x4_1 - 1)) s0_0 t366 (rdOf ByteArray.empty t353 t356) y367 false (⟨#[]⟩:ByteArray)) = some (r1,r2):=by first|(rw [hy367];with_reducible exact H)|(have H2_:=(Option.bind_some _ _).symm.trans H;rw [hy367];with_reducible exact H2_)|(have H2_:=(Option.bind_some _ _).symm.trans H;with_reducible exact H2_)|with_reducible exact H|(rw [hy367];exact H)|exact H
       have Ny367:=Aside0.mk hy367
       clear hy367
       have H':=Aside0.mk H
       clear H
       try go_wp2
       have n0_:=Aside0.mk (Kd.R_drew HO_360001.out)
       have n1_:=Aside0.mk (blk_drew BK359.out)
       have n2_:=Aside0.mk (IsS55.drew HI0.out)
       have n3_:=Aside0.mk (keep_drew HK.out)
       have n4_:=Aside0.mk (below_drew1 HB.out)
       clear HO_360001
       clear BK359
       clear HI0
       clear HK
       clear HB
       have HO_360001:=n0_
       have BK359:=n1_
       have HI0:=n2_
       have HK:=n3_
       have HB:=n4_
       clear n0_ n1_ n2_ n3_ n4_
       refine start_ (n:=9) (S:=fun w'=>w'.cell? ⟨gb359,0,none⟩ = some (.string (rdOf ByteArray.empty t353 t356)) ∧ w'.cell? ⟨gb359,1,none⟩ = some (u360001) ∧ w'.cell? ⟨gb359,2,none⟩ = some (.bool false) ∧ w'.cell? ⟨gb359,3,none⟩ = some (.string (⟨#[]⟩:ByteArray))) (ds:=[8]) #[false,false,false,false,false,false,false,false,false] (by kernel_rfl) rfl rfl ⟨(blk_cell BK359.out 0).trans rfl,(blk_cell BK359.out 1).trans rfl,(blk_cell BK359.out 2).trans rfl,(blk_cell BK359.out 3).trans rfl⟩ (fun hHeld=>?_);refine with_tabW spec_l71Addr.tab5 spec_l71Addr.bits5 (fun HT_ HW_=>?_)
       generalize wr.drew = w17 at HO_360001 BK359 HI0 HK HB hHeld ⊢
       refine pure_ (i:=0) (N:=some 17) (v:=?_) (a':=?_) #[true,false,false,false,false,false,false,false,false] rfl rfl (any_of HT_.out (by kernel_rfl)) (fun _ _ _ h=>h) (Or.inl ⟨by rfl,?_⟩) ?_ ?_
       rotate_left
       ·intro w'
        go_simp
        with_reducible rfl
       rotate_left
       ·simp only [Act.put,List.setIfInBounds_toArray,List.set_cons_zero,List.set_cons_succ,i64_w,i32_w]
        rfl
       refine pure_ (i:=2) (N:=some 19) (v:=?_) (a':=?_) #[true,false,true,false,false,false,false,false,false] rfl rfl (any_of HT_.out (by kernel_rfl)) (fun _ _ _ h=>h) (Or.inl ⟨by rfl,?_⟩) ?_ ?_
       rotate_left
       ·intro w'
        go_simp
        with_reducible rfl
       rotate_left
       ·simp only [Act.put,List.setIfInBounds_toArray,List.set_cons_zero,List.set_cons_succ,i64_w,i32_w]
        rfl
       refine take_ (i:=1) (N:=some 18) (v:=?_) (a':=?_) #[true,true,true,false,false,false,false,false,false] rfl rfl (take_ofW HT_.out HW_.out (by kernel_rfl)) (fun _ _ _ h=>h) (Or.inl ⟨by rfl,?_⟩) hHeld ?_ ?_
       rotate_left
       ·rintro w' ⟨s0,s1,s2,s3⟩
        go_simp
        with_reducible rfl
       rotate_left
       ·simp only [Act.put,List.setIfInBounds_toArray,List.set_cons_zero,List.set_cons_succ,i64_w,i32_w]
        rfl
       refine one_ (i:=3) (N:=some 20) #[true,true,true,true,false,false,false,false,false] rfl rfl (one_of HT_.out (by kernel_rfl)) (by decide) (fun K hK=>?_)
       refine Kd.R_lit_step Kd.string _ 9 ?hg (N:=20) ?hd (xs:=([(⟨#[97]⟩:ByteArray),(⟨#[98]⟩:ByteArray),(⟨#[99]⟩:ByteArray),(⟨#[110,111,116,105,99,101]⟩:ByteArray)]:List ByteArray)) (inner:=[.string (⟨#[97]⟩:ByteArray),.string (⟨#[98]⟩:ByteArray),.string (⟨#[99]⟩:ByteArray),.string (⟨#[110,111,116,105,99,101]⟩:ByteArray)]) (ok:=fun _=>True) (okp:=fun _=>True) ?hr ?hp (fun _ hk=>hk) trivial (Below.refl _ _) (Nat.le_refl _) (by simp) ?_;(case hd=>rfl);(case hg=>rfl);(case hr=>first|(go_simp;done)|(go_simp;rfl));(case hp=>exact (Reps.one (show Kd.M Kd.string _ _ _ (⟨#[97]⟩:ByteArray) [.string (⟨#[97]⟩:ByteArray)] from rfl) (Reps.one (show Kd.M Kd.string _ _ _ (⟨#[98]⟩:ByteArray) [.string (⟨#[98]⟩:ByteArray)] from rfl) (Reps.one (show Kd.M Kd.string _ _ _ (⟨#[99]⟩:ByteArray) [.string (⟨#[99]⟩:ByteArray)] from rfl) (Reps.one (show Kd.M Kd.string _ _ _ (⟨#[110,111,116,105,99,101]⟩:ByteArray) [.string (⟨#[110,111,116,105,99,101]⟩:ByteArray)] from rfl) (Reps.none _ _))))))
       intro v363 w18 ho19 hb hg_ hnew_
       clear hg_ hnew_
       (first|rw [← Ny362.out] at ho19|(simp only [Int.reduceToNat] at ho19;rw [← Ny362.out] at ho19))
       have n0_:=Aside0.mk (Kd.R_elder' (by (with_reducible repeat (first|apply Kd.R_alloc|apply Kd.R_drewN|apply Kd.R_drew));exact HO_360001.out) (Kd.R_base ho19) hb)
       have n1_:=Aside0.mk (Kd.R_lower (Kd.R_new' ho19 (Kd.R_lt (by (with_reducible repeat (first|apply Kd.R_alloc|apply Kd.R_drewN|apply Kd.R_drew));exact HO_360001.out))) (keep_size (w:=w) (g:=g) (row:=none) (by repeat (first|(with_reducible first|exact HK.out|apply KeepBut.set_|apply keep_drewN|apply keep_drew|apply keep_alloc|refine keep_far ?_ GW359.out _)|exact HK.out))))
       have n2_:=Aside0.mk (blk_below (g:=gb359) (o:=.cells #[.string (rdOf ByteArray.empty t353 t356),u360001,.bool false,.string (⟨#[]⟩:ByteArray)] 24 (0,0)) (by (with_reducible repeat (first|refine blk_drewN ?_ _|refine blk_drew ?_|refine blk_alloc ?_ _));exact BK359.out) hb)
       have n3_:=Aside0.mk (IsS55.below (by repeat (first|(with_reducible first|exact HI0.out|apply IsS55.alloc|apply IsS55.drewN|apply IsS55.drew|apply IsS55.set_1|refine IsS55.far ?_ NB0_359.out _)|exact HI0.out)) hb)
       have n4_:=Aside0.mk (KeepBut.trans (by repeat (first|(with_reducible first|exact HK.out|apply KeepBut.set_|apply keep_drewN|apply keep_drew|apply keep_alloc|refine keep_far ?_ GW359.out _)|exact HK.out)) (KeepBut.of_below hb g none) (.inl rfl))
       have n5_:=Aside0.mk (below_step (by repeat (first|(with_reducible first|exact HB.out|apply below_alloc|apply pw_below_drewN|apply below_drew1|refine below_set ?_ (IsS55.ge HI0.out)|refine below_set ?_ GE359.out)|exact HB.out)) hb)
       clear HO_360001
       clear BK359
       clear HI0
       clear HK
       clear HB
       have HO_360001:=n0_
       have HO364:=n1_
       have BK359:=n2_
       have HI0:=n3_
       have HK:=n4_
       have HB:=n5_
       clear n0_ n1_ n2_ n3_ n4_ n5_
       clear hb ho19
       obtain ⟨Ao20,co20,eo20⟩:=Kd.R_slice HO364.out
       (first|subst eo20|(injection eo20 with f1_ f2_ f3_;have f4_:=f1_.symm;have f5_:=f3_.symm;clear f1_ f2_ f3_;subst f4_;subst f5_))
       refine hK.out _ _ ⟨(blk_cell BK359.out 0).trans rfl,(blk_cell BK359.out 1).trans rfl,(blk_cell BK359.out 2).trans rfl,(blk_cell BK359.out 3).trans rfl⟩ (fun hHeld=>?_)
       clear hK K
       refine norm_ (a':=?_) ?_ ?_
       rotate_left
       ·show Act.put _ (some 20) _ = _
        simp only [Act.put,List.setIfInBounds_toArray,List.set_cons_zero,List.set_cons_succ,i64_w,i32_w]
        rfl
       refine one_ (i:=4) (N:=some 21) #[true,true,true,true,true,false,false,false,false] rfl rfl (one_of HT_.out (by kernel_rfl)) (by decide) (fun K hK=>?_)
       refine goes_ Tryd.func34 (by kernel_rfl) rfl #[.pointer (some ⟨g,0,none⟩),.slice Ao20 y362.length co20] (by rfl) rfl rfl (by (try simp only [List.map_toArray,List.map_cons,List.map_nil]);first|done|rfl|(simp only [List.length_drop,List.length_take];rfl)) ?_
       with_reducible refine (spec_l6Rd_of.calls k1 g s0_0 x1001_1 _ _ y362 t365 t366 w0 _ ?side1 ?side2 ?side3 ?side4 ?side5 A15.out).mono ?_
       (case side1=>repeat (first|(with_reducible first|exact HI0.out|apply IsS55.alloc|apply IsS55.drewN|apply IsS55.drew|apply IsS55.set_1|refine IsS55.far ?_ NB0_359.out _)|exact HI0.out))
       (case side2=>repeat (first|(with_reducible first|exact HB.out|apply below_alloc|apply pw_below_drewN|apply below_drew1|refine below_set ?_ (IsS55.ge HI0.out)|refine below_set ?_ GE359.out)|exact HB.out))
       (case side3=>repeat (first|exact (Kd.R_reads' HO364.out).2.2|(with_reducible refine Kd.C_alloc ?_ _)|(with_reducible refine Kd.C_drewN ?_ _)|(with_reducible refine Kd.C_drew ?_)))
       (case side4=>exact (Kd.R_reads' HO364.out).2.1)
       (case side5=>exact far_slice (IsS55.own_ne HI0.out HO364.out (by decide)))
       rintro e w21 ⟨rfl,hi,hb,hk⟩
       refine ⟨_,rfl,?_⟩
       have n0_:=Aside0.mk (Kd.R_mono (Kd.R_keep (IsS55.apart (show IsS55 w0 _ g s0_0 x1001_1 from by repeat (first|(with_reducible first|exact HI0.out|apply IsS55.alloc|apply IsS55.drewN|apply IsS55.drew|apply IsS55.set_1|refine IsS55.far ?_ NB0_359.out _)|exact HI0.out)) (by (with_reducible repeat (first|apply Kd.R_alloc|apply Kd.R_drewN|apply Kd.R_drew));exact HO_360001.out) (by decide)) hk (fun _ h=>h.2)) (fun _ h=>h.1))
       have n1_:=Aside0.mk (KeepBut.blk hk (g':=gb359) (o:=.cells #[.string (rdOf ByteArray.empty t353 t356),u360001,.bool false,.string (⟨#[]⟩:ByteArray)] 24 (0,0)) (by (with_reducible repeat (first|refine blk_drewN ?_ _|refine blk_drew ?_|refine blk_alloc ?_ _));exact BK359.out) NB359_0.out (by simp))
       have n2_:=Aside0.mk (Kd.R_mono (Kd.R_keep (IsS55.apart (show IsS55 w0 _ g s0_0 x1001_1 from by repeat (first|(with_reducible first|exact HI0.out|apply IsS55.alloc|apply IsS55.drewN|apply IsS55.drew|apply IsS55.set_1|refine IsS55.far ?_ NB0_359.out _)|exact HI0.out)) (by (with_reducible repeat (first|apply Kd.R_alloc|apply Kd.R_drewN|apply Kd.R_drew));exact HO364.out) (by decide)) hk (fun _ h=>h.2)) (fun _ h=>h.1))
       have n3_:=Aside0.mk (KeepBut.trans (by repeat (first|(with_reducible first|exact HK.out|apply KeepBut.set_|apply keep_drewN|apply keep_drew|apply keep_alloc|refine keep_far ?_ GW359.out _)|exact HK.out)) hk (.inl rfl))
       have n4_:=Aside0.mk (hb)
       have n5_:=Aside0.mk (hi)
       clear HO_360001
       clear BK359
       clear HO364
       clear HK
       clear HB
       clear HI0
       have HO_360001:=n0_
       have BK359:=n1_
       have HO364:=n2_
       have HK:=n3_
       have HB:=n4_
       have HI0:=n5_
       clear n0_ n1_ n2_ n3_ n4_ n5_
       (try clear hb)
       (try clear hb2)
       (try clear hk)
       (try clear hi)
       refine hK.out _ _ ⟨(blk_cell BK359.out 0).trans rfl,(blk_cell BK359.out 1).trans rfl,(blk_cell BK359.out 2).trans rfl,(blk_cell BK359.out 3).trans rfl⟩ (fun hHeld=>?_)
       clear hK K
       refine norm_ (a':=?_) ?_ ?_
       rotate_left
       ·show Act.put _ (some 21) _ = _
        simp only [Act.put,List.setIfInBounds_toArray,List.set_cons_zero,List.set_cons_succ,i64_w,i32_w]
        rfl
       refine one_ (i:=5) (N:=some 22) #[true,true,true,true,true,true,false,false,false] rfl rfl (one_of HT_.out (by kernel_rfl)) (by decide) (fun K hK=>?_)
       refine value_ (w1:=?_) (v:=?_) (by rfl) rfl ?_ ?_
       rotate_left 2
       ·go_simp
        constructor
        ·rfl
        ·rfl
       refine hK.out _ _ ⟨(blk_cell (blk_alloc BK359.out _) 0).trans rfl,(blk_cell (blk_alloc BK359.out _) 1).trans rfl,(blk_cell (blk_alloc BK359.out _) 2).trans rfl,(blk_cell (blk_alloc BK359.out _) 3).trans rfl⟩ (fun hHeld=>?_)
       clear hK K
       refine norm_ (a':=?_) ?_ ?_
       rotate_left
       ·show Act.put _ (some 22) _ = _
        simp only [Act.put,List.setIfInBounds_toArray,List.set_cons_zero,List.set_cons_succ,i64_w,i32_w]
        rfl
       refine one_ (i:=6) (N:=some 23) #[true,true,true,true,true,true,true,false,false] rfl rfl (one_of HT_.out (by kernel_rfl)) (by decide) (fun K hK=>?_)
       refine Kd.R_append_step Kd.string w.heap.size (by rfl) (.tmp 18) (.tmp 22) 22 9 (.string ⟨#[]⟩) 16 rfl Tryd.underlying22 info9 rfl (by decide) (by omega) u360001 x360001_1 t365 [.string t365] (fun k_=>some k_ ≠ (.slice Ao20 y362.length co20:Value).ownBlock) (fun _=>False) rfl rfl ?aP (fun _ hk=>hk.elim) ?aF ?aO (Below.refl _ _) ?aS ?aL ?_
       (case aP=>exact rfl)
       (case aF=>exact (fun k_ hk=>Kd.fresh' (Kd.R_lt (by (with_reducible repeat (first|apply Kd.R_alloc|apply Kd.R_drewN|apply Kd.R_drew));exact HO364.out)) k_ hk))
       (case aO=>exact (by (with_reducible repeat (first|apply Kd.R_alloc|apply Kd.R_drewN|apply Kd.R_drew));exact Kd.R_mono HO_360001.out (fun _ hk=>hk.2)))
       (case aS=>exact (keep_size (w:=w) (g:=g) (row:=none) (by repeat (first|(with_reducible first|exact HK.out|apply KeepBut.set_|apply keep_drewN|apply keep_drew|apply keep_alloc|refine keep_far ?_ GW359.out _)|exact HK.out))))
       (case aL=>have:=LMc16.out;omega)
       intro v368 w22 ho hb hg hat
       rw [← Ny367.out] at ho
       have n0_:=Aside0.mk (blk_grown (g:=gb359) (o:=.cells #[.string (rdOf ByteArray.empty t353 t356),u360001,.bool false,.string (⟨#[]⟩:ByteArray)] 24 (0,0)) (by (with_reducible repeat (first|refine blk_drewN ?_ _|refine blk_drew ?_|refine blk_alloc ?_ _));exact BK359.out) hg (Kd.R_ne HO_360001.out BK359.out (by decide)))
       have n1_:=Aside0.mk (IsS55.grown (by repeat (first|(with_reducible first|exact HI0.out|apply IsS55.alloc|apply IsS55.drewN|apply IsS55.drew|apply IsS55.set_1|refine IsS55.far ?_ NB0_359.out _)|exact HI0.out)) hg (IsS55.own_ne HI0.out HO_360001.out (by decide)))
       have n2_:=Aside0.mk (Kd.R_after (ok:=(fun _=>True)) (by (with_reducible repeat (first|apply Kd.R_alloc|apply Kd.R_drewN|apply Kd.R_drew));exact HO364.out) hg hat)
       have n3_:=Aside0.mk (below_weaken (by repeat (first|(with_reducible first|exact HB.out|apply below_alloc|apply pw_below_drewN|apply below_drew1|refine below_set ?_ (IsS55.ge HI0.out)|refine below_set ?_ GE359.out)|exact HB.out)) HL.out hb)
       have n4_:=Aside0.mk (KeepBut.trans (by repeat (first|(with_reducible first|exact HK.out|apply KeepBut.set_|apply keep_drewN|apply keep_drew|apply keep_alloc|refine keep_far ?_ GW359.out _)|exact HK.out)) (KeepBut.of_grown hg g) (Kd.R_base2 HO_360001.out))
       have n5_:=Aside0.mk (ho)
       clear BK359
       clear HI0
       clear HO364
       clear HB
       clear HK
       clear HO_360001
       have BK359:=n0_
       have HI0:=n1_
       have HO364:=n2_
       have HB:=n3_
       have HK:=n4_
       have HO369:=n5_
       clear n0_ n1_ n2_ n3_ n4_ n5_
       clear ho hb hg hat
       obtain ⟨Ao23,co23,eo23⟩:=Kd.R_slice HO369.out
       (first|subst eo23|(injection eo23 with f1_ f2_ f3_;have f4_:=f1_.symm;have f5_:=f3_.symm;clear f1_ f2_ f3_;subst f4_;subst f5_))
       refine hK.out _ _ ⟨(blk_cell BK359.out 0).trans rfl,(blk_cell BK359.out 1).trans rfl,(blk_cell BK359.out 2).trans rfl,(blk_cell BK359.out 3).trans rfl⟩ (fun hHeld=>?_)
       clear hK K
       refine norm_ (a':=?_) ?_ ?_
       rotate_left
       ·show Act.put _ (some 23) _ = _
        simp only [Act.put,List.setIfInBounds_toArray,List.set_cons_zero,List.set_cons_succ,i64_w,i32_w]
        rfl
       refine pure_ (i:=7) (N:=some 24) (v:=?_) (a':=?_) #[true,true,true,true,true,true,true,true,false] rfl rfl (any_of HT_.out (by kernel_rfl)) (fun _ _ _ h=>h) (Or.inl ⟨by rfl,?_⟩) ?_ ?_
       rotate_left
       ·intro w'
        go_simp
        with_reducible rfl
       rotate_left
       ·simp only [Act.put,List.setIfInBounds_toArray,List.set_cons_zero,List.set_cons_succ,i64_w,i32_w]
        rfl
       refine last_ (i:=8) (N:=none) #[true,true,true,true,true,true,true,true,true] rfl rfl (one_of HT_.out (by kernel_rfl)) (by decide) (fun K hK=>?_)
       have hs24:w22.cell? ⟨gb359,1,none⟩ = some (u360001):=(blk_cell BK359.out 1).trans rfl
       have hfs24:=blk_frozen BK359.out 1
       refine skip_ (w1:=?_) (by rfl) rfl ?_ ?_
       rotate_left
       ·go_simp
        rfl
       refine hK.out _ _ ?_
       clear hK K
       refine done_ (done_of HT_.out (by kernel_rfl)) ?_
       try go_wp2
       go_roundg k1
       case measure=>have:=HK1.out;omega
       case rel=>exact ⟨(wrap64 (x4_1 - 1)),(t366),(y367),(.slice Ao23 y367.length co23),(by first|rfl|(simp;done)|(simp only [i64_w,i32_w];done)|(simp only [i64_w,i32_w];rfl)|(simp [*];done)|(simp [emp_bne,emp_beq];done)),H',⟨by have:=HK1.out;omega⟩,⟨by (with_reducible repeat (first|apply Kd.R_alloc|apply Kd.R_drewN|apply Kd.R_drew));exact Kd.R_mono (Kd.R_far (p:=⟨gb359,1,none⟩) (Kd.R_types HO369.out BK359.out (by decide)) (fun _ hk=>hk.2) (.slice Ao23 y367.length co23)) (fun _ hk=>trivial)⟩,⟨by (with_reducible repeat (first|refine blk_drewN ?_ _|refine blk_drew ?_|refine blk_alloc ?_ _));refine blk_put (cs:=#[.string (rdOf ByteArray.empty t353 t356),u360001,.bool false,.string (⟨#[]⟩:ByteArray)]) ?_ 1 _ rfl;(with_reducible repeat (first|refine blk_drewN ?_ _|refine blk_drew ?_|refine blk_alloc ?_ _));exact BK359.out⟩,⟨by repeat (first|(with_reducible first|exact HI0.out|apply IsS55.alloc|apply IsS55.drewN|apply IsS55.drew|apply IsS55.set_1|refine IsS55.far ?_ NB0_359.out _)|exact HI0.out)⟩,⟨by repeat (first|(with_reducible first|exact HK.out|apply KeepBut.set_|apply keep_drewN|apply keep_drew|apply keep_alloc|refine keep_far ?_ GW359.out _)|exact HK.out)⟩,⟨by repeat (first|(with_reducible first|exact HB.out|apply below_alloc|apply pw_below_drewN|apply below_drew1|refine below_set ?_ (IsS55.ge HI0.out)|refine below_set ?_ GE359.out)|exact HB.out)⟩⟩
      ·rw [if_neg c16] at H
       exact absurd H (by simp)
     ·rw [if_neg c14] at H
      have c14b0:decide (0 < x4_1) = false:=decide_eq_false c14
      clear c14
      replace H:=Option.bind_eq_some_iff.mp H
      obtain ⟨⟨t370,t371⟩,A250,H⟩:=H
      replace H:(if t370 = 0 then ((spec_l6Rd_of.f k1 s0_0 t371 (([(⟨#[]⟩:ByteArray),(⟨#[97]⟩:ByteArray),(⟨#[98,37,51,68]⟩:ByteArray)]:List ByteArray))).bind fun bt375=>((spec_AddrText.f k1 (rdOf ByteArray.empty t353 t356) x360001_1 true bt375.1).bind fun t377=>(some (t377,bt375.2)))) else ((spec_AddrText.f k1 (rdOf ByteArray.empty t353 t356) x360001_1 false (⟨#[]⟩:ByteArray)).bind fun t378=>(some (t378,t371)))) = some (r1,r2):=H
      have A25:=Aside0.mk A250
      clear A250
      by_cases c26:t370 = 0
      ·rw [if_pos c26] at H
       have c26b0:(t370 == 0) = true:=beq_iff_eq.mpr c26
       have c26b1:(t370 != 0) = false:=bne_eq_false_iff_eq.mpr c26
       clear c26
       obtain ⟨y372,hy372⟩:∃ y_:List ByteArray,y_ = (([(⟨#[]⟩:ByteArray),(⟨#[97]⟩:ByteArray),(⟨#[98,37,51,68]⟩:ByteArray)]:List ByteArray)):=⟨_,rfl⟩
       replace H:((spec_l6Rd_of.f k1 s0_0 t371 y372).bind fun bt375=>((spec_AddrText.f k1 (rdOf ByteArray.empty t353 t356) x360001_1 true bt375.1).bind fun t377=>(some (t377,bt375.2)))) = some (r1,r2):=by first|(rw [hy372];with_reducible exact H)|(have H2_:=(Option.bind_some _ _).symm.trans H;rw [hy372];with_reducible exact H2_)|(have H2_:=(Option.bind_some _ _).symm.trans H;with_reducible exact H2_)|with_reducible exact H|(rw [hy372];exact H)|exact H
       have Ny372:=Aside0.mk hy372
       clear hy372
       replace H:=Option.bind_eq_some_iff.mp H
       obtain ⟨⟨t375,t376⟩,A270,H⟩:=H
       replace H:((spec_AddrText.f k1 (rdOf ByteArray.empty t353 t356) x360001_1 true t375).bind fun t377=>(some (t377,t376))) = some (r1,r2):=H
       have A27:=Aside0.mk A270
       clear A270
       replace H:=Option.bind_eq_some_iff.mp H
       obtain ⟨t377,A280,H⟩:=H
       replace H:(some (t377,t376)) = some (r1,r2):=H
       have A28:=Aside0.mk A280
       clear A280
       simp only [Option.some.injEq,Prod.mk.injEq] at H
       obtain ⟨rfl,rfl⟩:=H
       go_wp2_with (first|((with_reducible refine gate_callee (f:=32) rfl ?_);refine goesL_ (some 26) rfl rfl Tryd.func32 (by kernel_rfl) rfl #[.pointer (some ⟨g,0,none⟩),.int .i64 8] rfl (by (try simp only [List.map_toArray,List.map_cons,List.map_nil]);first|done|rfl|(simp only [List.length_drop,List.length_take];rfl)) ?_;(with_reducible refine (spec_l6Rd_pick.calls k1 g s0_0 x1001_1 8 t370 t371 w0 _ ?side1 ?side2 A25.out).mono ?_);(case side1=>repeat (first|(with_reducible first|exact HI0.out|apply IsS55.alloc|apply IsS55.drewN|apply IsS55.drew|apply IsS55.set_1|refine IsS55.far ?_ NB0_359.out _)|exact HI0.out));(case side2=>repeat (first|(with_reducible first|exact HB.out|apply below_alloc|apply pw_below_drewN|apply below_drew1|refine below_set ?_ (IsS55.ge HI0.out)|refine below_set ?_ GE359.out)|exact HB.out));rintro e w29 ⟨rfl,hi,hb,hk⟩;refine ⟨_,rfl,?_⟩;have n0_:=Aside0.mk (Kd.R_mono (Kd.R_keep (IsS55.apart (show IsS55 w0 _ g s0_0 x1001_1 from by repeat (first|(with_reducible first|exact HI0.out|apply IsS55.alloc|apply IsS55.drewN|apply IsS55.drew|apply IsS55.set_1|refine IsS55.far ?_ NB0_359.out _)|exact HI0.out)) (by (with_reducible repeat (first|apply Kd.R_alloc|apply Kd.R_drewN|apply Kd.R_drew));exact HO_360001.out) (by decide)) hk (fun _ h=>h.2)) (fun _ h=>h.1));have n1_:=Aside0.mk (KeepBut.blk hk (g':=gb359) (o:=.cells #[.string (rdOf ByteArray.empty t353 t356),u360001,.bool false,.string (⟨#[]⟩:ByteArray)] 24 (0,0)) (by (with_reducible repeat (first|refine blk_drewN ?_ _|refine blk_drew ?_|refine blk_alloc ?_ _));exact BK359.out) NB359_0.out (by simp));have n2_:=Aside0.mk (KeepBut.trans (by repeat (first|(with_reducible first|exact HK.out|apply KeepBut.set_|apply keep_drewN|apply keep_drew|apply keep_alloc|refine keep_far ?_ GW359.out _)|exact HK.out)) hk (.inl rfl));have n3_:=Aside0.mk (hb);have n4_:=Aside0.mk (hi);clear HO_360001;clear BK359;clear HK;clear HB;clear HI0;have HO_360001:=n0_;have BK359:=n1_;have HK:=n2_;have HB:=n3_;have HI0:=n4_;clear n0_ n1_ n2_ n3_ n4_;(try clear hb);(try clear hb2);(try clear hk);(try clear hi);have hnb30:=NB359_0.out;have hnc30:=NB0_359.out;have hcz31_0:w29.cell? ⟨gb359,0,none⟩ = some (.string (rdOf ByteArray.empty t353 t356)):=(blk_cell BK359.out 0).trans rfl;have hcz31_1:w29.cell? ⟨gb359,1,none⟩ = some (u360001):=(blk_cell BK359.out 1).trans rfl;have hcz31_2:w29.cell? ⟨gb359,2,none⟩ = some (.bool false):=(blk_cell BK359.out 2).trans rfl;have hcz31_3:w29.cell? ⟨gb359,3,none⟩ = some (.string (⟨#[]⟩:ByteArray)):=(blk_cell BK359.out 3).trans rfl;have hfz31_0:=blk_frozen BK359.out 0;have hfz31_1:=blk_frozen BK359.out 1;have hfz31_2:=blk_frozen BK359.out 2;have hfz31_3:=blk_frozen BK359.out 3)|((with_reducible refine gate_dst (N:=30) rfl ?_);refine Kd.R_lit Kd.string _ 9 ?hg (N:=30) ?hd (xs:=([(⟨#[]⟩:ByteArray),(⟨#[97]⟩:ByteArray),(⟨#[98,37,51,68]⟩:ByteArray)]:List ByteArray)) (inner:=[.string (⟨#[]⟩:ByteArray),.string (⟨#[97]⟩:ByteArray),.string (⟨#[98,37,51,68]⟩:ByteArray)]) (ok:=fun _=>True) (okp:=fun _=>True) ?hr ?hp (fun _ hk=>hk) trivial (Below.refl _ _) (Nat.le_refl _) (by simp) ?_;(case hd=>rfl);(case hg=>rfl);(case hr=>first|(go_simp;done)|(go_simp;rfl));(case hp=>exact (Reps.one (show Kd.M Kd.string _ _ _ (⟨#[]⟩:ByteArray) [.string (⟨#[]⟩:ByteArray)] from rfl) (Reps.one (show Kd.M Kd.string _ _ _ (⟨#[97]⟩:ByteArray) [.string (⟨#[97]⟩:ByteArray)] from rfl) (Reps.one (show Kd.M Kd.string _ _ _ (⟨#[98,37,51,68]⟩:ByteArray) [.string (⟨#[98,37,51,68]⟩:ByteArray)] from rfl) (Reps.none _ _)))));intro v373 w32 ho33 hb hg_ hnew_;clear hg_ hnew_;(first|rw [← Ny372.out] at ho33|(simp only [Int.reduceToNat] at ho33;rw [← Ny372.out] at ho33));have n0_:=Aside0.mk (Kd.R_elder' (by (with_reducible repeat (first|apply Kd.R_alloc|apply Kd.R_drewN|apply Kd.R_drew));exact (Kd.R_mono (Kd.R_far (p:=⟨gb359,2,none⟩) (Kd.R_types HO_360001.out BK359.out (by decide)) (fun _ hk=>hk.2) (.bool true)) (fun _ h_=>h_.1))) (Kd.R_base ho33) hb);have n1_:=Aside0.mk (Kd.R_lower (Kd.R_new' ho33 (Kd.R_lt (by (with_reducible repeat (first|apply Kd.R_alloc|apply Kd.R_drewN|apply Kd.R_drew));exact (Kd.R_mono (Kd.R_far (p:=⟨gb359,2,none⟩) (Kd.R_types HO_360001.out BK359.out (by decide)) (fun _ hk=>hk.2) (.bool true)) (fun _ h_=>h_.1))))) (keep_size (w:=w) (g:=g) (row:=none) (by repeat (first|(with_reducible first|exact HK.out|apply KeepBut.set_|apply keep_drewN|apply keep_drew|apply keep_alloc|refine keep_far ?_ GW359.out _)|exact HK.out))));have n2_:=Aside0.mk (blk_below (g:=gb359) (o:=.cells #[.string (rdOf ByteArray.empty t353 t356),u360001,.bool true,.string (⟨#[]⟩:ByteArray)] 24 (0,0)) (by (with_reducible repeat (first|refine blk_drewN ?_ _|refine blk_drew ?_|refine blk_alloc ?_ _));refine blk_put (cs:=#[.string (rdOf ByteArray.empty t353 t356),u360001,.bool false,.string (⟨#[]⟩:ByteArray)]) ?_ 2 _ rfl;(with_reducible repeat (first|refine blk_drewN ?_ _|refine blk_drew ?_|refine blk_alloc ?_ _));exact BK359.out) hb);have n3_:=Aside0.mk (IsS55.below (show IsS55 w0 (w29.setCell ⟨gb359,2,none⟩ (.bool true)) g s0_0 t371 from by repeat (first|(with_reducible first|exact HI0.out|apply IsS55.alloc|apply IsS55.drewN|apply IsS55.drew|apply IsS55.set_1|refine IsS55.far ?_ NB0_359.out _)|exact HI0.out)) hb);have n4_:=Aside0.mk (KeepBut.trans (by repeat (first|(with_reducible first|exact HK.out|apply KeepBut.set_|apply keep_drewN|apply keep_drew|apply keep_alloc|refine keep_far ?_ GW359.out _)|exact HK.out)) (KeepBut.of_below hb g none) (.inl rfl));have n5_:=Aside0.mk (below_step (by repeat (first|(with_reducible first|exact HB.out|apply below_alloc|apply pw_below_drewN|apply below_drew1|refine below_set ?_ (IsS55.ge HI0.out)|refine below_set ?_ GE359.out)|exact HB.out)) hb);clear HO_360001;clear BK359;clear HI0;clear HK;clear HB;have HO_360001:=n0_;have HO374:=n1_;have BK359:=n2_;have HI0:=n3_;have HK:=n4_;have HB:=n5_;clear n0_ n1_ n2_ n3_ n4_ n5_;clear hb ho33;obtain ⟨Ao34,co34,eo34⟩:=Kd.R_slice HO374.out;subst eo34)|((with_reducible refine gate_callee (f:=34) rfl ?_);refine goesL_ (some 31) rfl rfl Tryd.func34 (by kernel_rfl) rfl #[.pointer (some ⟨g,0,none⟩),.slice Ao34 y372.length co34] rfl (by (try simp only [List.map_toArray,List.map_cons,List.map_nil]);first|done|rfl|(simp only [List.length_drop,List.length_take];rfl)) ?_;(with_reducible refine (spec_l6Rd_of.calls k1 g s0_0 t371 _ _ y372 t375 t376 w0 _ ?side1 ?side2 ?side3 ?side4 ?side5 A27.out).mono ?_);(case side1=>repeat (first|(with_reducible first|exact HI0.out|apply IsS55.alloc|apply IsS55.drewN|apply IsS55.drew|apply IsS55.set_1|refine IsS55.far ?_ NB0_359.out _)|exact HI0.out));(case side2=>repeat (first|(with_reducible first|exact HB.out|apply below_alloc|apply pw_below_drewN|apply below_drew1|refine below_set ?_ (IsS55.ge HI0.out)|refine below_set ?_ GE359.out)|exact HB.out));(case side3=>repeat (first|exact (Kd.R_reads' HO374.out).2.2|(with_reducible refine Kd.C_alloc ?_ _)|(with_reducible refine Kd.C_drewN ?_ _)|(with_reducible refine Kd.C_drew ?_)));(case side4=>exact (Kd.R_reads' HO374.out).2.1);(case side5=>exact far_slice (IsS55.own_ne HI0.out HO374.out (by decide)));rintro e w35 ⟨rfl,hi,hb,hk⟩;refine ⟨_,rfl,?_⟩;have n0_:=Aside0.mk (Kd.R_mono (Kd.R_keep (IsS55.apart (show IsS55 w0 _ g s0_0 t371 from by repeat (first|(with_reducible first|exact HI0.out|apply IsS55.alloc|apply IsS55.drewN|apply IsS55.drew|apply IsS55.set_1|refine IsS55.far ?_ NB0_359.out _)|exact HI0.out)) (by (with_reducible repeat (first|apply Kd.R_alloc|apply Kd.R_drewN|apply Kd.R_drew));exact HO_360001.out) (by decide)) hk (fun _ h=>h.2)) (fun _ h=>h.1));have n1_:=Aside0.mk (KeepBut.blk hk (g':=gb359) (o:=.cells #[.string (rdOf ByteArray.empty t353 t356),u360001,.bool true,.string (⟨#[]⟩:ByteArray)] 24 (0,0)) (by (with_reducible repeat (first|refine blk_drewN ?_ _|refine blk_drew ?_|refine blk_alloc ?_ _));exact BK359.out) NB359_0.out (by simp));have n2_:=Aside0.mk (Kd.R_mono (Kd.R_keep (IsS55.apart (show IsS55 w0 _ g s0_0 t371 from by repeat (first|(with_reducible first|exact HI0.out|apply IsS55.alloc|apply IsS55.drewN|apply IsS55.drew|apply IsS55.set_1|refine IsS55.far ?_ NB0_359.out _)|exact HI0.out)) (by (with_reducible repeat (first|apply Kd.R_alloc|apply Kd.R_drewN|apply Kd.R_drew));exact HO374.out) (by decide)) hk (fun _ h=>h.2)) (fun _ h=>h.1));have n3_:=Aside0.mk (KeepBut.trans (by repeat (first|(with_reducible first|exact HK.out|apply KeepBut.set_|apply keep_drewN|apply keep_drew|apply keep_alloc|refine keep_far ?_ GW359.out _)|exact HK.out)) hk (.inl rfl));have n4_:=Aside0.mk (hb);have n5_:=Aside0.mk (hi);clear HO_360001;clear BK359;clear HO374;clear HK;clear HB;clear HI0;have HO_360001:=n0_;have BK359:=n1_;have HO374:=n2_;have HK:=n3_;have HB:=n4_;have HI0:=n5_;clear n0_ n1_ n2_ n3_ n4_ n5_;(try clear hb);(try clear hb2);(try clear hk);(try clear hi);have hcz36_0:w35.cell? ⟨gb359,0,none⟩ = some (.string (rdOf ByteArray.empty t353 t356)):=(blk_cell BK359.out 0).trans rfl;have hcz36_1:w35.cell? ⟨gb359,1,none⟩ = some (u360001):=(blk_cell BK359.out 1).trans rfl;have hcz36_2:w35.cell? ⟨gb359,2,none⟩ = some (.bool true):=(blk_cell BK359.out 2).trans rfl;have hcz36_3:w35.cell? ⟨gb359,3,none⟩ = some (.string (⟨#[]⟩:ByteArray)):=(blk_cell BK359.out 3).trans rfl;have hfz36_0:=blk_frozen BK359.out 0;have hfz36_1:=blk_frozen BK359.out 1;have hfz36_2:=blk_frozen BK359.out 2;have hfz36_3:=blk_frozen BK359.out 3;obtain ⟨Ao37,co37,eo37⟩:=Kd.R_slice HO_360001.out;subst eo37)|((with_reducible refine gate_callee (f:=15) rfl ?_);refine goesL_ (some 34) rfl rfl Tryd.func15 (by kernel_rfl) rfl #[.agg #[.string (rdOf ByteArray.empty t353 t356),.slice Ao37 x360001_1.length co37,.bool true,.string t375]] rfl (by (try simp only [List.map_toArray,List.map_cons,List.map_nil]);first|done|rfl|(simp only [List.length_drop,List.length_take];rfl)) ?_;(with_reducible refine (spec_AddrText.calls k1 (rdOf ByteArray.empty t353 t356) _ _ x360001_1 true t375 t377 _ ?side1 ?side2 A28.out).mono ?_);(case side1=>refine (Kd.R_reads' (e:=9) (base:=w.heap.size) (ok:=fun k_=>(True ∧ some k_ ≠ (.slice Ao34 y372.length co34:Value).ownBlock)) (n:=x360001_1.length) (c:=co37) ?_).2.2;exact (by (with_reducible repeat (first|apply Kd.R_alloc|apply Kd.R_drewN|apply Kd.R_drew));exact (Kd.R_mono (Kd.R_far (p:=⟨gb359,3,none⟩) (Kd.R_types HO_360001.out BK359.out (by decide)) (fun _ hk=>hk.2) (.string t375)) (fun _ h_=>h_.1))));(case side2=>exact (Kd.R_reads' HO_360001.out).2.1);rintro e w38 ⟨rfl,hb⟩;refine ⟨_,rfl,?_⟩;have n0_:=Aside0.mk (Kd.R_below (by (with_reducible repeat (first|apply Kd.R_alloc|apply Kd.R_drewN|apply Kd.R_drew));exact (Kd.R_mono (Kd.R_far (p:=⟨gb359,3,none⟩) (Kd.R_types HO_360001.out BK359.out (by decide)) (fun _ hk=>hk.2) (.string t375)) (fun _ h_=>h_.1))) hb);have n1_:=Aside0.mk (Kd.R_below (by (with_reducible repeat (first|apply Kd.R_alloc|apply Kd.R_drewN|apply Kd.R_drew));exact (Kd.R_mono (Kd.R_far (p:=⟨gb359,3,none⟩) (Kd.R_types HO374.out BK359.out (by decide)) (fun _ hk=>hk.2) (.string t375)) (fun _ h_=>h_.1))) hb);have n2_:=Aside0.mk (blk_below (g:=gb359) (o:=.cells #[.string (rdOf ByteArray.empty t353 t356),.slice Ao37 x360001_1.length co37,.bool true,.string t375] 24 (0,0)) (by (with_reducible repeat (first|refine blk_drewN ?_ _|refine blk_drew ?_|refine blk_alloc ?_ _));refine blk_put (cs:=#[.string (rdOf ByteArray.empty t353 t356),.slice Ao37 x360001_1.length co37,.bool true,.string (⟨#[]⟩:ByteArray)]) ?_ 3 _ rfl;(with_reducible repeat (first|refine blk_drewN ?_ _|refine blk_drew ?_|refine blk_alloc ?_ _));exact BK359.out) hb);have n3_:=Aside0.mk (IsS55.below (show IsS55 w0 (w35.setCell ⟨gb359,3,none⟩ (.string t375)) g s0_0 t376 from by repeat (first|(with_reducible first|exact HI0.out|apply IsS55.alloc|apply IsS55.drewN|apply IsS55.drew|apply IsS55.set_1|refine IsS55.far ?_ NB0_359.out _)|exact HI0.out)) hb);have n4_:=Aside0.mk (KeepBut.trans (by repeat (first|(with_reducible first|exact HK.out|apply KeepBut.set_|apply keep_drewN|apply keep_drew|apply keep_alloc|refine keep_far ?_ GW359.out _)|exact HK.out)) (KeepBut.of_below hb g none) (.inl rfl));have n5_:=Aside0.mk (below_step (by repeat (first|(with_reducible first|exact HB.out|apply below_alloc|apply pw_below_drewN|apply below_drew1|refine below_set ?_ (IsS55.ge HI0.out)|refine below_set ?_ GE359.out)|exact HB.out)) hb);clear HO_360001;clear HO374;clear BK359;clear HI0;clear HK;clear HB;have HO_360001:=n0_;have HO374:=n1_;have BK359:=n2_;have HI0:=n3_;have HK:=n4_;have HB:=n5_;clear n0_ n1_ n2_ n3_ n4_ n5_;(try clear hb);(try clear hb2);(try clear hk);(try clear hi)))
       go_ret
       exact ⟨by first|rfl|(simp <;> rfl)|(simp [*] <;> rfl),by repeat (first|(with_reducible first|exact HI0.out|apply IsS55.alloc|apply IsS55.drewN|apply IsS55.drew|apply IsS55.set_1|refine IsS55.far ?_ NB0_359.out _)|exact HI0.out),by repeat (first|(with_reducible first|exact HB.out|apply below_alloc|apply pw_below_drewN|apply below_drew1|refine below_set ?_ (IsS55.ge HI0.out)|refine below_set ?_ GE359.out)|exact HB.out),by repeat (first|(with_reducible first|exact HK.out|apply KeepBut.set_|apply keep_drewN|apply keep_drew|apply keep_alloc|refine keep_far ?_ GW359.out _)|exact HK.out)⟩
      ·rw [if_neg c26] at H
       have c26b0:(t370 == 0) = false:=beq_eq_false_iff_ne.mpr c26
       have c26b1:(t370 != 0) = true:=bne_iff_ne.mpr c26
       replace H:=Option.bind_eq_some_iff.mp H
       obtain ⟨t378,A390,H⟩:=H
       replace H:(some (t378,t371)) = some (r1,r2):=H
       have A39:=Aside0.mk A390
       clear A390
       simp only [Option.some.injEq,Prod.mk.injEq] at H
       obtain ⟨rfl,rfl⟩:=H
       go_wp2_with (first|((with_reducible refine gate_callee (f:=32) rfl ?_);refine goesL_ (some 26) rfl rfl Tryd.func32 (by kernel_rfl) rfl #[.pointer (some ⟨g,0,none⟩),.int .i64 8] rfl (by (try simp only [List.map_toArray,List.map_cons,List.map_nil]);first|done|rfl|(simp only [List.length_drop,List.length_take];rfl)) ?_;(with_reducible refine (spec_l6Rd_pick.calls k1 g s0_0 x1001_1 8 t370 t371 w0 _ ?side1 ?side2 A25.out).mono ?_);(case side1=>repeat (first|(with_reducible first|exact HI0.out|apply IsS55.alloc|apply IsS55.drewN|apply IsS55.drew|apply IsS55.set_1|refine IsS55.far ?_ NB0_359.out _)|exact HI0.out));(case side2=>repeat (first|(with_reducible first|exact HB.out|apply below_alloc|apply pw_below_drewN|apply below_drew1|refine below_set ?_ (IsS55.ge HI0.out)|refine below_set ?_ GE359.out)|exact HB.out));rintro e w40 ⟨rfl,hi,hb,hk⟩;refine ⟨_,rfl,?_⟩;have n0_:=Aside0.mk (Kd.R_mono (Kd.R_keep (IsS55.apart (show IsS55 w0 _ g s0_0 x1001_1 from by repeat (first|(with_reducible first|exact HI0.out|apply IsS55.alloc|apply IsS55.drewN|apply IsS55.drew|apply IsS55.set_1|refine IsS55.far ?_ NB0_359.out _)|exact HI0.out)) (by (with_reducible repeat (first|apply Kd.R_alloc|apply Kd.R_drewN|apply Kd.R_drew));exact HO_360001.out) (by decide)) hk (fun _ h=>h.2)) (fun _ h=>h.1));have n1_:=Aside0.mk (KeepBut.blk hk (g':=gb359) (o:=.cells #[.string (rdOf ByteArray.empty t353 t356),u360001,.bool false,.string (⟨#[]⟩:ByteArray)] 24 (0,0)) (by (with_reducible repeat (first|refine blk_drewN ?_ _|refine blk_drew ?_|refine blk_alloc ?_ _));exact BK359.out) NB359_0.out (by simp));have n2_:=Aside0.mk (KeepBut.trans (by repeat (first|(with_reducible first|exact HK.out|apply KeepBut.set_|apply keep_drewN|apply keep_drew|apply keep_alloc|refine keep_far ?_ GW359.out _)|exact HK.out)) hk (.inl rfl));have n3_:=Aside0.mk (hb);have n4_:=Aside0.mk (hi);clear HO_360001;clear BK359;clear HK;clear HB;clear HI0;have HO_360001:=n0_;have BK359:=n1_;have HK:=n2_;have HB:=n3_;have HI0:=n4_;clear n0_ n1_ n2_ n3_ n4_;(try clear hb);(try clear hb2);(try clear hk);(try clear hi);have hnb41:=NB359_0.out;have hnc41:=NB0_359.out;have hcz42_0:w40.cell? ⟨gb359,0,none⟩ = some (.string (rdOf ByteArray.empty t353 t356)):=(blk_cell BK359.out 0).trans rfl;have hcz42_1:w40.cell? ⟨gb359,1,none⟩ = some (u360001):=(blk_cell BK359.out 1).trans rfl;have hcz42_2:w40.cell? ⟨gb359,2,none⟩ = some (.bool false):=(blk_cell BK359.out 2).trans rfl;have hcz42_3:w40.cell? ⟨gb359,3,none⟩ = some (.string (⟨#[]⟩:ByteArray)):=(blk_cell BK359.out 3).trans rfl;have hfz42_0:=blk_frozen BK359.out 0;have hfz42_1:=blk_frozen BK359.out 1;have hfz42_2:=blk_frozen BK359.out 2;have hfz42_3:=blk_frozen BK359.out 3;obtain ⟨Ao43,co43,eo43⟩:=Kd.R_slice HO_360001.out;subst eo43)|((with_reducible refine gate_callee (f:=15) rfl ?_);refine goesL_ (some 34) rfl rfl Tryd.func15 (by kernel_rfl) rfl #[.agg #[.string (rdOf ByteArray.empty t353 t356),.slice Ao43 x360001_1.length co43,.bool false,.string (⟨#[]⟩:ByteArray)]] rfl (by (try simp only [List.map_toArray,List.map_cons,List.map_nil]);first|done|rfl|(simp only [List.length_drop,List.length_take];rfl)) ?_;(with_reducible refine (spec_AddrText.calls k1 (rdOf ByteArray.empty t353 t356) _ _ x360001_1 false (⟨#[]⟩:ByteArray) t378 _ ?side1 ?side2 A39.out).mono ?_);(case side1=>repeat (first|exact (Kd.R_reads' HO_360001.out).2.2|(with_reducible refine Kd.C_alloc ?_ _)|(with_reducible refine Kd.C_drewN ?_ _)|(with_reducible refine Kd.C_drew ?_)));(case side2=>exact (Kd.R_reads' HO_360001.out).2.1);rintro e w44 ⟨rfl,hb⟩;refine ⟨_,rfl,?_⟩;have n0_:=Aside0.mk (Kd.R_below (by (with_reducible repeat (first|apply Kd.R_alloc|apply Kd.R_drewN|apply Kd.R_drew));exact HO_360001.out) hb);have n1_:=Aside0.mk (blk_below (g:=gb359) (o:=.cells #[.string (rdOf ByteArray.empty t353 t356),.slice Ao43 x360001_1.length co43,.bool false,.string (⟨#[]⟩:ByteArray)] 24 (0,0)) (by (with_reducible repeat (first|refine blk_drewN ?_ _|refine blk_drew ?_|refine blk_alloc ?_ _));exact BK359.out) hb);have n2_:=Aside0.mk (IsS55.below (by repeat (first|(with_reducible first|exact HI0.out|apply IsS55.alloc|apply IsS55.drewN|apply IsS55.drew|apply IsS55.set_1|refine IsS55.far ?_ NB0_359.out _)|exact HI0.out)) hb);have n3_:=Aside0.mk (KeepBut.trans (by repeat (first|(with_reducible first|exact HK.out|apply KeepBut.set_|apply keep_drewN|apply keep_drew|apply keep_alloc|refine keep_far ?_ GW359.out _)|exact HK.out)) (KeepBut.of_below hb g none) (.inl rfl));have n4_:=Aside0.mk (below_step (by repeat (first|(with_reducible first|exact HB.out|apply below_alloc|apply pw_below_drewN|apply below_drew1|refine below_set ?_ (IsS55.ge HI0.out)|refine below_set ?_ GE359.out)|exact HB.out)) hb);clear HO_360001;clear BK359;clear HI0;clear HK;clear HB;have HO_360001:=n0_;have BK359:=n1_;have HI0:=n2_;have HK:=n3_;have HB:=n4_;clear n0_ n1_ n2_ n3_ n4_;(try clear hb);(try clear hb2);(try clear hk);(try clear hi)))
       go_ret
       exact ⟨by first|rfl|(simp <;> rfl)|(simp [*] <;> rfl),by repeat (first|(with_reducible first|exact HI0.out|apply IsS55.alloc|apply IsS55.drewN|apply IsS55.drew|apply IsS55.set_1|refine IsS55.far ?_ NB0_359.out _)|exact HI0.out),by repeat (first|(with_reducible first|exact HB.out|apply below_alloc|apply pw_below_drewN|apply below_drew1|refine below_set ?_ (IsS55.ge HI0.out)|refine below_set ?_ GE359.out)|exact HB.out),by repeat (first|(with_reducible first|exact HK.out|apply KeepBut.set_|apply keep_drewN|apply keep_drew|apply keep_alloc|refine keep_far ?_ GW359.out _)|exact HK.out)⟩
  ·rw [if_neg c5] at H
   exact absurd H (by simp)
 ·rw [if_neg c4] at H
  exact absurd H (by simp)

/-! ### spec_l6Open: function 27 -/
def spec_l6Open.f (l0:List Int):Option (List Int × Int):=if (l0.length:Int) > 2000 then (if 2000 ≤ (l0.length:Int) then (some (l0.take 2000,0)) else (none)) else (some (l0,0))
theorem spec_l6Open.calls (A0:Option Addr) (c0:Nat) (l0:List Int) (r1:List Int) (r2:Int) (w0 w:World) (hB:Below w0.heap.size w0 w) (hr0:Kd.C (Kd.int .u8) w0 A0 l0.length l0) (hc0:l0.length ≤ c0) (h:spec_l6Open.f l0 = some (r1,r2)) :
  Calls Tryd.prog 27 #[.slice A0 l0.length c0] w fun e w'=>∃ g_:Nat,e = .returned (.pointer (some ⟨g_,0,none⟩)) ∧ IsS55 w0 w' g_ r1 r2 ∧ Below w0.heap.size w0 w' ∧ Below w.heap.size w w':=by
 have hu55:=Tryd.underlying55
 have HR0:=Aside0.mk hr0
 have HC0:=Aside0.mk hc0
 clear hr0 hc0
 have HBW:=Aside0.mk (Below.refl w.heap.size w)
 have HW0:=Aside0.mk hB.size
 have HB:=Aside0.mk hB
 clear hB
 have H:(if (l0.length:Int) > 2000 then (if 2000 ≤ (l0.length:Int) then (some (l0.take 2000,0)) else (none)) else (some (l0,0))) = some (r1,r2):=h
 clear h
 by_cases c2:(l0.length:Int) > 2000
 ·rw [if_pos c2] at H
  have c2b0:decide (2000 < (l0.length:Int)) = true:=decide_eq_true c2
  have c2b1:decide (2000 < l0.length) = true:=decide_eq_true (by omega)
  clear c2
  by_cases c3:2000 ≤ (l0.length:Int)
  ·rw [if_pos c3] at H
   have c3b0:=eq_true c3
   have c3b1:=decide_eq_true c3
   clear c3
   simp only [Option.some.injEq,Prod.mk.injEq] at H
   obtain ⟨rfl,rfl⟩:=H
   obtain ⟨i04,hi04,_,hsz4,_⟩:=info_parts info5
   obtain ⟨hcut4,hA4,hC4⟩:=print_take_of (P:=Tryd.prog) (Value.int .u8) 0 30 5 .i64 Tryd.underlying30 hi04 hsz4 A0 c0 l0 2000 (by omega) (of_decide_eq_true (by first|(with_reducible assumption)|assumption)) HC0.out
   have HR411:=Aside0.mk (Kd.C_of_reads (h1:=fun _=>rfl) (hA4 _ (Kd.reads_of_C HR0.out)))
   have HC411:=Aside0.mk hC4
   clear hA4 hC4 hi04 hsz4
   go_enter Tryd.func27,Tryd.ntmps27
   go_wp2_with (first|((with_reducible refine gate_dst (N:=10) rfl ?_);refine box_event ?hg (N:=10) ?hd (cs:=#[.slice A0 (l0.take 2000).length c0,.int .i64 0]) (t:=55) ?hr ?_;(case hd=>rfl);(case hg=>rfl);(case hr=>first|(go_simp;done)|(go_simp;rfl));intro gb412 hg w5 hbox hb;have n0_:=Aside0.mk (below_step HBW.out hb);have n1_:=Aside0.mk (below_step (by repeat (first|(with_reducible first|exact HB.out|apply below_alloc|apply pw_below_drewN|apply below_drew1)|exact HB.out)) hb);have n2_:=Aside0.mk (hbox);have n3_:=Aside0.mk ((by rw [hg];exact (below_size (by repeat (first|(with_reducible first|exact HBW.out|apply below_alloc|apply pw_below_drewN|apply below_drew1)|exact HBW.out))):w.heap.size ≤ gb412));have n4_:=Aside0.mk ((Nat.le_trans HW0.out (by rw [hg];exact (below_size (by repeat (first|(with_reducible first|exact HBW.out|apply below_alloc|apply pw_below_drewN|apply below_drew1)|exact HBW.out))):w.heap.size ≤ gb412):w0.heap.size ≤ gb412));clear HBW;clear HB;have HBW:=n0_;have HB:=n1_;have BK412:=n2_;have GW412:=n3_;have GE412:=n4_;clear n0_ n1_ n2_ n3_ n4_;clear hb hbox hg))
   go_ret
   exact ⟨_,rfl,(show IsS55 w0 _ gb412 (l0.take 2000) 0 from ⟨_,_,by (with_reducible repeat (first|refine blk_drewN ?_ _|refine blk_drew ?_|refine blk_alloc ?_ _));exact BK412.out,GE412.out,HR411.out⟩),by repeat (first|(with_reducible first|exact HB.out|apply below_alloc|apply pw_below_drewN|apply below_drew1|refine below_set ?_ GE412.out)|exact HB.out),by repeat (first|(with_reducible first|exact HBW.out|apply below_alloc|apply pw_below_drewN|apply below_drew1|refine below_set ?_ GW412.out)|exact HBW.out)⟩
  ·rw [if_neg c3] at H
   exact absurd H (by simp)
 ·rw [if_neg c2] at H
  have c2b0:decide (2000 < (l0.length:Int)) = false:=decide_eq_false c2
  have c2b1:decide (2000 < l0.length) = false:=decide_eq_false (by omega)
  clear c2
  simp only [Option.some.injEq,Prod.mk.injEq] at H
  obtain ⟨rfl,rfl⟩:=H
  go_enter Tryd.func27,Tryd.ntmps27
  go_wp2_with (first|((with_reducible refine gate_dst (N:=10) rfl ?_);refine box_event ?hg (N:=10) ?hd (cs:=#[.slice A0 l0.length c0,.int .i64 0]) (t:=55) ?hr ?_;(case hd=>rfl);(case hg=>rfl);(case hr=>first|(go_simp;done)|(go_simp;rfl));intro gb413 hg w6 hbox hb;have n0_:=Aside0.mk (below_step HBW.out hb);have n1_:=Aside0.mk (below_step (by repeat (first|(with_reducible first|exact HB.out|apply below_alloc|apply pw_below_drewN|apply below_drew1)|exact HB.out)) hb);have n2_:=Aside0.mk (hbox);have n3_:=Aside0.mk ((by rw [hg];exact (below_size (by repeat (first|(with_reducible first|exact HBW.out|apply below_alloc|apply pw_below_drewN|apply below_drew1)|exact HBW.out))):w.heap.size ≤ gb413));have n4_:=Aside0.mk ((Nat.le_trans HW0.out (by rw [hg];exact (below_size (by repeat (first|(with_reducible first|exact HBW.out|apply below_alloc|apply pw_below_drewN|apply below_drew1)|exact HBW.out))):w.heap.size ≤ gb413):w0.heap.size ≤ gb413));clear HBW;clear HB;have HBW:=n0_;have HB:=n1_;have BK413:=n2_;have GW413:=n3_;have GE413:=n4_;clear n0_ n1_ n2_ n3_ n4_;clear hb hbox hg))
  go_ret
  exact ⟨_,rfl,(show IsS55 w0 _ gb413 l0 0 from ⟨_,_,by (with_reducible repeat (first|refine blk_drewN ?_ _|refine blk_drew ?_|refine blk_alloc ?_ _));exact BK413.out,GE413.out,HR0.out⟩),by repeat (first|(with_reducible first|exact HB.out|apply below_alloc|apply pw_below_drewN|apply below_drew1|refine below_set ?_ GE413.out)|exact HB.out),by repeat (first|(with_reducible first|exact HBW.out|apply below_alloc|apply pw_below_drewN|apply below_drew1|refine below_set ?_ GW413.out)|exact HBW.out)⟩

end Go.Proofs.YtochmlkladpfgaaDoor.P
