-- Written by a program of this session (patch_print.py over the kit's print; given texts in wip/given).
import Derived.Test.YtochmlkladpfgaaDoorPx0
namespace Go.Proofs.YtochmlkladpfgaaDoor.P
open Go.RowKit Go.Proofs.YtochmlkladpfgaaDoorW.PrintWords Go.Proofs.YtochmlkladpfgaaDoorW.PrintLast Go.Proofs.YtochmlkladpfgaaDoorW.PrintMore
attribute [local go_sem] max2_int min2_int max_two min_two max_three min_three max_four min_four   -- for this text's walks alone
set_option linter.unusedVariables false
set_option linter.unusedSimpArgs false
set_option maxHeartbeats 8000000
set_option maxRecDepth 100000

/-! ### spec_l1Cut: function 19 -/
def spec_l1Cut.l0:Nat → ByteArray → Int → Int → Option (ByteArray × ByteArray × Bool)
 | 0,_,_,_=>none
 | k + 1,x0,x1,x7=>if x7 < (x0.size:Int) then (if 0 ≤ x7 then (if (bt x0 x7) = x1 then (if x7 ≤ (x0.size:Int) then (if 0 ≤ (wrap64 (x7 + 1)) then (if (wrap64 (x7 + 1)) ≤ (x0.size:Int) then (some (x0.extract 0 (x7:Int).toNat,x0.extract ((wrap64 (x7 + 1)):Int).toNat x0.size,true)) else (none)) else (none)) else (none)) else (spec_l1Cut.l0 k x0 x1 (wrap64 (x7 + 1)))) else (none)) else (some (x0,(⟨#[]⟩:ByteArray),false))
def spec_l1Cut.f (k:Nat) (a0:ByteArray) (a1:Int):Option (ByteArray × ByteArray × Bool):=spec_l1Cut.l0 k a0 a1 0
theorem spec_l1Cut.mono_l:∀ k,(∀ y0 y1 y2,LeO (spec_l1Cut.l0 k y0 y1 y2) (spec_l1Cut.l0 (k + 1) y0 y1 y2))
 | 0=>fun _ _ _ r h=>by simp [spec_l1Cut.l0] at h
 | k + 1=>by
  have ih0:=spec_l1Cut.mono_l k
  ·intro y0 y1 y2
   unfold spec_l1Cut.l0
   repeat' first
   | (with_reducible exact ih0 _ _ _)
   | (with_reducible exact LeO.refl _)
   | (with_reducible exact LeO.none _)
   | (with_reducible refine LeO.ite ?_ ?_)
   | (with_reducible refine LeO.bind ?_ (fun _=>?_))
   | exact ih0 _ _ _
   | exact LeO.none _
   | refine LeO.ite ?_ ?_
   | refine LeO.bind ?_ (fun _=>?_)
theorem spec_l1Cut.mono:∀ a0 a1 k,LeO (spec_l1Cut.f k a0 a1) (spec_l1Cut.f (k + 1) a0 a1):=by
 intro a0 a1 k
 have ih0:=spec_l1Cut.mono_l k
 unfold spec_l1Cut.f
 repeat' first
   | (with_reducible exact ih0 _ _ _)
   | (with_reducible exact LeO.refl _)
   | (with_reducible exact LeO.none _)
   | (with_reducible refine LeO.ite ?_ ?_)
   | (with_reducible refine LeO.bind ?_ (fun _=>?_))
   | exact ih0 _ _ _
   | exact LeO.none _
   | refine LeO.ite ?_ ?_
   | refine LeO.bind ?_ (fun _=>?_)
theorem spec_l1Cut.calls (k:Nat) (a0:ByteArray) (a1:Int) (r1:ByteArray) (r2:ByteArray) (r3:Bool) (w:World) (h:spec_l1Cut.f k a0 a1 = some (r1,r2,r3)) :
  Calls Tryd.prog 19 #[.string a0,.int .u8 a1] w fun e w'=>e = .returned (.tuple #[.string r1,.string r2,.bool r3]) ∧ Drawn0 w w':=by
 have H:(spec_l1Cut.l0 k a0 a1 0) = some (r1,r2,r3):=h
 clear h
 have H':=Aside0.mk H
 clear H
 go_enter Tryd.func19,Tryd.ntmps19
 go_wp2
 repeat (go_quiet (fail);try go_wp2)
 go_loopg [7] k (fun kq v7 w'=>∃ (x7_1:Int),v7 = .int .i64 x7_1 ∧ Aside0 (spec_l1Cut.l0 kq a0 a1 x7_1 = some (r1,r2,r3)) ∧ Aside0 (kq ≤ k) ∧ Drawn0 w w')
 case atStart=>exact ⟨(0),(by first|rfl|(simp;done)|(simp only [i64_w,i32_w];done)|(simp only [i64_w,i32_w];rfl)|(simp [*];done)|(simp [emp_bne,emp_beq];done)),H',⟨Nat.le_refl _⟩,by repeat (first|exact Drawn0.refl _|apply Drawn0.step)⟩
 case round =>
  clear H'
  try clear c1
  try clear p2
  obtain ⟨x7_1,rfl,HA,HK1,⟨m1,rfl⟩⟩:=hrel
  cases gk with
  | zero=>exact absurd HA.out (by simp [spec_l1Cut.l0])
  | succ k1 =>
   have H:=HA.out
   clear HA
   simp only [spec_l1Cut.l0] at H
   by_cases c3:x7_1 < (a0.size:Int)
   ·rw [if_pos c3] at H
    have c3b0:decide (x7_1 < (a0.size:Int)) = true:=decide_eq_true c3
    clear c3
    by_cases c4:0 ≤ x7_1
    ·rw [if_pos c4] at H
     have c4b0:decide (0 ≤ x7_1) = true:=decide_eq_true c4
     clear c4
     by_cases c6:(bt a0 x7_1) = a1
     ·rw [if_pos c6] at H
      have c6b0:((bt a0 x7_1) == a1) = true:=beq_iff_eq.mpr c6
      have c6b1:((bt a0 x7_1) != a1) = false:=bne_eq_false_iff_eq.mpr c6
      clear c6
      have c7b0:=eq_true (of_decide_eq_true (by first|(with_reducible assumption)|assumption):0 ≤ x7_1)
      by_cases c8:x7_1 ≤ (a0.size:Int)
      ·rw [if_pos c8] at H
       have c8b0:=eq_true c8
       have c8b1:=decide_eq_true c8
       clear c8
       obtain ⟨ji9,hji9⟩:∃ j_:Int,(wrap64 (x7_1 + 1)) = j_:=⟨_,rfl⟩
       replace H:(if 0 ≤ (ji9) then (if (ji9) ≤ (a0.size:Int) then (some (a0.extract 0 (x7_1:Int).toNat,a0.extract ((ji9):Int).toNat a0.size,true)) else (none)) else (none)) = some (r1,r2,r3):=by first|(rw [hji9] at H;exact H)|(simp only [hji9] at H ⊢;exact H)
       have hji9w:(IntKind.i64.wrap (x7_1 + 1)) = ji9:=(i64_w _).trans hji9
       by_cases c10:0 ≤ (ji9)
       ·rw [if_pos c10] at H
        have c10b0:=eq_true c10
        have c10b1:=decide_eq_true c10
        clear c10
        by_cases c11:(ji9) ≤ (a0.size:Int)
        ·rw [if_pos c11] at H
         have c11b0:=eq_true c11
         have c11b1:=decide_eq_true c11
         clear c11
         simp only [Option.some.injEq,Prod.mk.injEq] at H
         obtain ⟨rfl,rfl,rfl⟩:=H
         have p5:0 ≤ (x7_1:Int):=of_decide_eq_true (by first|(with_reducible assumption)|assumption)
         have q5:x7_1 < (a0.size:Int):=of_decide_eq_true (by first|(with_reducible assumption)|assumption)
         have hx5:=bt_at a0 x7_1
         replace p5:=eq_true p5
         replace q5:=eq_true q5
         go_wp2
         repeat (go_quiet (fail);try go_wp2)
         go_ret3
         exact ⟨by first|rfl|(simp only [i64_w,i32_w];done)|(simp only [i64_w,i32_w];rfl)|(simp;done)|(simp only [← hji9] <;> (first|rfl|simp))|(simp [*];done),by repeat (first|exact Drawn0.refl _|apply Drawn0.step)⟩
        ·rw [if_neg c11] at H
         exact absurd H (by simp)
       ·rw [if_neg c10] at H
        exact absurd H (by simp)
      ·rw [if_neg c8] at H
       exact absurd H (by simp)
     ·rw [if_neg c6] at H
      have c6b0:((bt a0 x7_1) == a1) = false:=beq_eq_false_iff_ne.mpr c6
      have c6b1:((bt a0 x7_1) != a1) = true:=bne_iff_ne.mpr c6
      have H':=Aside0.mk H
      clear H
      have p5:0 ≤ (x7_1:Int):=of_decide_eq_true (by first|(with_reducible assumption)|assumption)
      have q5:x7_1 < (a0.size:Int):=of_decide_eq_true (by first|(with_reducible assumption)|assumption)
      have hx5:=bt_at a0 x7_1
      replace p5:=eq_true p5
      replace q5:=eq_true q5
      go_wp2
      repeat (go_quiet (fail);try go_wp2)
      go_roundg k1
      case measure=>have:=HK1.out;omega
      case rel=>exact ⟨(wrap64 (x7_1 + 1)),(by first|rfl|(simp;done)|(simp only [i64_w,i32_w];done)|(simp only [i64_w,i32_w];rfl)|(simp [*];done)|(simp [emp_bne,emp_beq];done)),H',⟨by have:=HK1.out;omega⟩,by repeat (first|exact Drawn0.refl _|apply Drawn0.step)⟩
    ·rw [if_neg c4] at H
     exact absurd H (by simp)
   ·rw [if_neg c3] at H
    have c3b0:decide (x7_1 < (a0.size:Int)) = false:=decide_eq_false c3
    clear c3
    simp only [Option.some.injEq,Prod.mk.injEq] at H
    obtain ⟨rfl,rfl,rfl⟩:=H
    go_wp2
    repeat (go_quiet (fail);try go_wp2)
    go_ret3
    exact ⟨by first|rfl|(simp;done)|(simp only [i64_w,i32_w];done)|(simp only [i64_w,i32_w];rfl)|(simp [*];done)|(simp [emp_bne,emp_beq];done),by repeat (first|exact Drawn0.refl _|apply Drawn0.step)⟩

/-! ### spec_l1Path: function 50 -/
def spec_l1Path.l0:Nat → ByteArray → Int → ByteArray → List ByteArray → Bool → ByteArray → Option (ByteArray)
 | 0,_,_,_,_,_,_=>none
 | k + 1,x3,x4,x231000,x231001,x231002,x231003=>if x4 < (x231001.length:Int) then (if x4 > 0 then (if x3.size + 1 ≤ 9223372036854775807 then (if 0 ≤ x4 then (if (x3 ++ (⟨#[47]⟩:ByteArray)).size + (rdOf ByteArray.empty x231001 x4).size ≤ 9223372036854775807 then (spec_l1Path.l0 k ((x3 ++ (⟨#[47]⟩:ByteArray)) ++ (rdOf ByteArray.empty x231001 x4)) (wrap64 (x4 + 1)) x231000 x231001 x231002 x231003) else (none)) else (none)) else (none)) else (if 0 ≤ x4 then (if x3.size + (rdOf ByteArray.empty x231001 x4).size ≤ 9223372036854775807 then (spec_l1Path.l0 k (x3 ++ (rdOf ByteArray.empty x231001 x4)) (wrap64 (x4 + 1)) x231000 x231001 x231002 x231003) else (none)) else (none))) else (if x231002 = true then (if x3.size + 1 ≤ 9223372036854775807 then (if (x3 ++ (⟨#[63]⟩:ByteArray)).size + x231003.size ≤ 9223372036854775807 then (some ((x3 ++ (⟨#[63]⟩:ByteArray)) ++ x231003)) else (none)) else (none)) else (some x3))
def spec_l1Path.f (k:Nat) (a0_0:ByteArray) (l0_1:List ByteArray) (a0_2:Bool) (a0_3:ByteArray):Option (ByteArray):=spec_l1Path.l0 k (⟨#[47]⟩:ByteArray) 0 a0_0 l0_1 a0_2 a0_3
theorem spec_l1Path.mono_l:∀ k,(∀ y0 y1 y2 y3 y4 y5,LeO (spec_l1Path.l0 k y0 y1 y2 y3 y4 y5) (spec_l1Path.l0 (k + 1) y0 y1 y2 y3 y4 y5))
 | 0=>fun _ _ _ _ _ _ r h=>by simp [spec_l1Path.l0] at h
 | k + 1=>by
  have ih0:=spec_l1Path.mono_l k
  ·intro y0 y1 y2 y3 y4 y5
   unfold spec_l1Path.l0
   repeat' first
   | (with_reducible exact ih0 _ _ _ _ _ _)
   | (with_reducible exact LeO.refl _)
   | (with_reducible exact LeO.none _)
   | (with_reducible refine LeO.ite ?_ ?_)
   | (with_reducible refine LeO.bind ?_ (fun _=>?_))
   | exact ih0 _ _ _ _ _ _
   | exact LeO.none _
   | refine LeO.ite ?_ ?_
   | refine LeO.bind ?_ (fun _=>?_)
theorem spec_l1Path.mono:∀ a0 a1 a2 a3 k,LeO (spec_l1Path.f k a0 a1 a2 a3) (spec_l1Path.f (k + 1) a0 a1 a2 a3):=by
 intro a0 a1 a2 a3 k
 have ih0:=spec_l1Path.mono_l k
 unfold spec_l1Path.f
 repeat' first
   | (with_reducible exact ih0 _ _ _ _ _ _)
   | (with_reducible exact LeO.refl _)
   | (with_reducible exact LeO.none _)
   | (with_reducible refine LeO.ite ?_ ?_)
   | (with_reducible refine LeO.bind ?_ (fun _=>?_))
   | exact ih0 _ _ _ _ _ _
   | exact LeO.none _
   | refine LeO.ite ?_ ?_
   | refine LeO.bind ?_ (fun _=>?_)
theorem spec_l1Path.calls (k:Nat) (a0_0:ByteArray) (A0_1:Option Addr) (c0_1:Nat) (l0_1:List ByteArray) (a0_2:Bool) (a0_3:ByteArray) (r:ByteArray) (w:World) (hr0_1:Kd.C Kd.string w A0_1 l0_1.length l0_1) (hc0_1:l0_1.length ≤ c0_1) (h:spec_l1Path.f k a0_0 l0_1 a0_2 a0_3 = some r) :
  Calls Tryd.prog 50 #[.agg #[.string a0_0,.slice A0_1 l0_1.length c0_1,.bool a0_2,.string a0_3]] w fun e w'=>e = .returned (.string r) ∧ Below w.heap.size w w':=by
 have hu24:=Tryd.underlying24
 have HR0_1:=Aside0.mk hr0_1
 have HC0_1:=Aside0.mk hc0_1
 clear hr0_1 hc0_1
 have HB:=Aside0.mk (Below.refl w.heap.size w)
 have H:(spec_l1Path.l0 k (⟨#[47]⟩:ByteArray) 0 a0_0 l0_1 a0_2 a0_3) = some r:=h
 clear h
 have H':=Aside0.mk H
 clear H
 go_enter Tryd.func50,Tryd.ntmps50
 go_wp2_with (first|((with_reducible refine gate_dst (N:=1) rfl ?_);refine box_event ?hg (N:=1) ?hd (cs:=#[.string a0_0,.slice A0_1 l0_1.length c0_1,.bool a0_2,.string a0_3]) (t:=24) ?hr ?_;(case hd=>rfl);(case hg=>rfl);(case hr=>first|(go_simp;done)|(go_simp;rfl));intro gb230 hg w2 hbox hb;have n0_:=Aside0.mk (below_step (by repeat (first|(with_reducible first|exact HB.out|apply below_alloc|apply pw_below_drewN|apply below_drew1)|exact HB.out)) hb);have n1_:=Aside0.mk (hbox);have n2_:=Aside0.mk ((by rw [hg];exact (below_size (by repeat (first|(with_reducible first|exact HB.out|apply below_alloc|apply pw_below_drewN|apply below_drew1)|exact HB.out))):w.heap.size ≤ gb230));have n3_:=n2_;clear HB;have HB:=n0_;have BK230:=n1_;have GW230:=n2_;have GE230:=n3_;clear n0_ n1_ n2_ n3_;clear hb hbox hg))
 go_loopg [3,4] k (fun kq v3 v4 w'=>∃ (x3_1:ByteArray) (x4_1:Int),v3 = .string x3_1 ∧ v4 = .int .i64 x4_1 ∧ Aside0 (spec_l1Path.l0 kq x3_1 x4_1 a0_0 l0_1 a0_2 a0_3 = some r) ∧ Aside0 (kq ≤ k) ∧ Aside0 (w'.heap[gb230]? = some (.cells #[.string a0_0,(.slice A0_1 l0_1.length c0_1),.bool a0_2,.string a0_3] 24 (0,0))) ∧ Aside0 (Below w.heap.size w w'))
 case atStart=>exact ⟨((⟨#[47]⟩:ByteArray)),(0),(by first|rfl|(simp;done)|(simp only [i64_w,i32_w];done)|(simp only [i64_w,i32_w];rfl)|(simp [*];done)|(simp [emp_bne,emp_beq];done)),(by first|rfl|(simp;done)|(simp only [i64_w,i32_w];done)|(simp only [i64_w,i32_w];rfl)|(simp [*];done)|(simp [emp_bne,emp_beq];done)),H',⟨Nat.le_refl _⟩,⟨by (with_reducible repeat (first|refine blk_drewN ?_ _|refine blk_drew ?_|refine blk_alloc ?_ _));exact BK230.out⟩,⟨by repeat (first|(with_reducible first|exact HB.out|apply below_alloc|apply pw_below_drewN|apply below_drew1|refine below_set ?_ GE230.out)|exact HB.out)⟩⟩
 case round =>
  clear H'
  try clear p2
  obtain ⟨x3_1,x4_1,rfl,rfl,HA,HK1,BK230,HB⟩:=hrel
  cases gk with
  | zero=>exact absurd HA.out (by simp [spec_l1Path.l0])
  | succ k1 =>
   have H:=HA.out
   clear HA
   simp only [spec_l1Path.l0] at H
   by_cases c3:x4_1 < (l0_1.length:Int)
   ·rw [if_pos c3] at H
    have c3b0:decide (x4_1 < (l0_1.length:Int)) = true:=decide_eq_true c3
    clear c3
    by_cases c4:x4_1 > 0
    ·rw [if_pos c4] at H
     have c4b0:decide (0 < x4_1) = true:=decide_eq_true c4
     clear c4
     by_cases c5:x3_1.size + 1 ≤ 9223372036854775807
     ·rw [if_pos c5] at H
      have c5b0:=eq_true c5
      have c5b1:=decide_eq_true c5
      try have c5b2:(9223372036854775807 < x3_1.size + 1) = False:=eq_false (Nat.not_lt.2 c5)
      by_cases c6:0 ≤ x4_1
      ·rw [if_pos c6] at H
       have c6b0:decide (0 ≤ x4_1) = true:=decide_eq_true c6
       clear c6
       by_cases c7:(x3_1 ++ (⟨#[47]⟩:ByteArray)).size + (rdOf ByteArray.empty l0_1 x4_1).size ≤ 9223372036854775807
       ·rw [if_pos c7] at H
        have c7b0:=eq_true c7
        have c7b1:=decide_eq_true c7
        try have c7b3:(9223372036854775807 < x3_1.size + 1 + (rdOf ByteArray.empty l0_1 x4_1).size) = False:=eq_false (Nat.not_lt.2 (by have h_:=c7;simp only [ByteArray.size_append] at h_;exact h_))
        try have c7b2:(9223372036854775807 < (x3_1 ++ (⟨#[47]⟩:ByteArray)).size + (rdOf ByteArray.empty l0_1 x4_1).size) = False:=eq_false (Nat.not_lt.2 c7)
        have H':=Aside0.mk H
        clear H
        have hcz8_0:wr.cell? ⟨gb230,0,none⟩ = some (.string a0_0):=(blk_cell BK230.out 0).trans rfl
        have hcz8_1:wr.cell? ⟨gb230,1,none⟩ = some (.slice A0_1 l0_1.length c0_1):=(blk_cell BK230.out 1).trans rfl
        have hcz8_2:wr.cell? ⟨gb230,2,none⟩ = some (.bool a0_2):=(blk_cell BK230.out 2).trans rfl
        have hcz8_3:wr.cell? ⟨gb230,3,none⟩ = some (.string a0_3):=(blk_cell BK230.out 3).trans rfl
        have hfz8_0:=blk_frozen BK230.out 0
        have hfz8_1:=blk_frozen BK230.out 1
        have hfz8_2:=blk_frozen BK230.out 2
        have hfz8_3:=blk_frozen BK230.out 3
        have p231:0 ≤ (x4_1:Int):=of_decide_eq_true (by first|(with_reducible assumption)|assumption)
        have q231:x4_1 < (l0_1.length:Int):=of_decide_eq_true (by first|(with_reducible assumption)|assumption)
        obtain ⟨ad231,e231,hx231_0⟩:=Kd.at_string HR0_1.out x4_1 p231 q231
        cases e231
        replace hx231_0:=(HB.out.cell (World.block_lt_of_cell? w _ hx231_0)).trans hx231_0
        replace p231:=eq_true p231
        replace q231:=eq_true q231
        go_wp2
        go_roundg k1
        case measure=>have:=HK1.out;omega
        case rel=>exact ⟨((x3_1 ++ (⟨#[47]⟩:ByteArray)) ++ (rdOf ByteArray.empty l0_1 x4_1)),(wrap64 (x4_1 + 1)),(by first|rfl|(simp;done)|(simp only [i64_w,i32_w];done)|(simp only [i64_w,i32_w];rfl)|(simp [*];done)|(simp [emp_bne,emp_beq];done)),(by first|rfl|(simp;done)|(simp only [i64_w,i32_w];done)|(simp only [i64_w,i32_w];rfl)|(simp [*];done)|(simp [emp_bne,emp_beq];done)),H',⟨by have:=HK1.out;omega⟩,⟨by (with_reducible repeat (first|refine blk_drewN ?_ _|refine blk_drew ?_|refine blk_alloc ?_ _));exact BK230.out⟩,⟨by repeat (first|(with_reducible first|exact HB.out|apply below_alloc|apply pw_below_drewN|apply below_drew1|refine below_set ?_ GE230.out)|exact HB.out)⟩⟩
       ·rw [if_neg c7] at H
        exact absurd H (by simp)
      ·rw [if_neg c6] at H
       exact absurd H (by simp)
     ·rw [if_neg c5] at H
      exact absurd H (by simp)
    ·rw [if_neg c4] at H
     have c4b0:decide (0 < x4_1) = false:=decide_eq_false c4
     clear c4
     by_cases c9:0 ≤ x4_1
     ·rw [if_pos c9] at H
      have c9b0:decide (0 ≤ x4_1) = true:=decide_eq_true c9
      clear c9
      by_cases c10:x3_1.size + (rdOf ByteArray.empty l0_1 x4_1).size ≤ 9223372036854775807
      ·rw [if_pos c10] at H
       have c10b0:=eq_true c10
       have c10b1:=decide_eq_true c10
       try have c10b2:(9223372036854775807 < x3_1.size + (rdOf ByteArray.empty l0_1 x4_1).size) = False:=eq_false (Nat.not_lt.2 c10)
       have H':=Aside0.mk H
       clear H
       have hcz11_0:wr.cell? ⟨gb230,0,none⟩ = some (.string a0_0):=(blk_cell BK230.out 0).trans rfl
       have hcz11_1:wr.cell? ⟨gb230,1,none⟩ = some (.slice A0_1 l0_1.length c0_1):=(blk_cell BK230.out 1).trans rfl
       have hcz11_2:wr.cell? ⟨gb230,2,none⟩ = some (.bool a0_2):=(blk_cell BK230.out 2).trans rfl
       have hcz11_3:wr.cell? ⟨gb230,3,none⟩ = some (.string a0_3):=(blk_cell BK230.out 3).trans rfl
       have hfz11_0:=blk_frozen BK230.out 0
       have hfz11_1:=blk_frozen BK230.out 1
       have hfz11_2:=blk_frozen BK230.out 2
       have hfz11_3:=blk_frozen BK230.out 3
       have p232:0 ≤ (x4_1:Int):=of_decide_eq_true (by first|(with_reducible assumption)|assumption)
       have q232:x4_1 < (l0_1.length:Int):=of_decide_eq_true (by first|(with_reducible assumption)|assumption)
       obtain ⟨ad232,e232,hx232_0⟩:=Kd.at_string HR0_1.out x4_1 p232 q232
       cases e232
       replace hx232_0:=(HB.out.cell (World.block_lt_of_cell? w _ hx232_0)).trans hx232_0
       replace p232:=eq_true p232
       replace q232:=eq_true q232
       go_wp2
       go_roundg k1
       case measure=>have:=HK1.out;omega
       case rel=>exact ⟨(x3_1 ++ (rdOf ByteArray.empty l0_1 x4_1)),(wrap64 (x4_1 + 1)),(by first|rfl|(simp;done)|(simp only [i64_w,i32_w];done)|(simp only [i64_w,i32_w];rfl)|(simp [*];done)|(simp [emp_bne,emp_beq];done)),(by first|rfl|(simp;done)|(simp only [i64_w,i32_w];done)|(simp only [i64_w,i32_w];rfl)|(simp [*];done)|(simp [emp_bne,emp_beq];done)),H',⟨by have:=HK1.out;omega⟩,⟨by (with_reducible repeat (first|refine blk_drewN ?_ _|refine blk_drew ?_|refine blk_alloc ?_ _));exact BK230.out⟩,⟨by repeat (first|(with_reducible first|exact HB.out|apply below_alloc|apply pw_below_drewN|apply below_drew1|refine below_set ?_ GE230.out)|exact HB.out)⟩⟩
      ·rw [if_neg c10] at H
       exact absurd H (by simp)
     ·rw [if_neg c9] at H
      exact absurd H (by simp)
   ·rw [if_neg c3] at H
    have c3b0:decide (x4_1 < (l0_1.length:Int)) = false:=decide_eq_false c3
    clear c3
    by_cases c12:a0_2 = true
    ·subst c12
     have H1:(if x3_1.size + 1 ≤ 9223372036854775807 then (if (x3_1 ++ (⟨#[63]⟩:ByteArray)).size + a0_3.size ≤ 9223372036854775807 then (some ((x3_1 ++ (⟨#[63]⟩:ByteArray)) ++ a0_3)) else (none)) else (none)) = some r:=by rw [if_pos rfl] at H;exact H
     clear H
     have H:=H1
     clear H1
     by_cases c13:x3_1.size + 1 ≤ 9223372036854775807
     ·rw [if_pos c13] at H
      have c13b0:=eq_true c13
      have c13b1:=decide_eq_true c13
      try have c13b2:(9223372036854775807 < x3_1.size + 1) = False:=eq_false (Nat.not_lt.2 c13)
      by_cases c14:(x3_1 ++ (⟨#[63]⟩:ByteArray)).size + a0_3.size ≤ 9223372036854775807
      ·rw [if_pos c14] at H
       have c14b0:=eq_true c14
       have c14b1:=decide_eq_true c14
       try have c14b3:(9223372036854775807 < x3_1.size + 1 + a0_3.size) = False:=eq_false (Nat.not_lt.2 (by have h_:=c14;simp only [ByteArray.size_append] at h_;exact h_))
       try have c14b2:(9223372036854775807 < (x3_1 ++ (⟨#[63]⟩:ByteArray)).size + a0_3.size) = False:=eq_false (Nat.not_lt.2 c14)
       obtain rfl:=Option.some.inj H
       have hcz15_0:wr.cell? ⟨gb230,0,none⟩ = some (.string a0_0):=(blk_cell BK230.out 0).trans rfl
       have hcz15_1:wr.cell? ⟨gb230,1,none⟩ = some (.slice A0_1 l0_1.length c0_1):=(blk_cell BK230.out 1).trans rfl
       have hcz15_2:wr.cell? ⟨gb230,2,none⟩ = some (.bool true):=(blk_cell BK230.out 2).trans rfl
       have hcz15_3:wr.cell? ⟨gb230,3,none⟩ = some (.string a0_3):=(blk_cell BK230.out 3).trans rfl
       have hfz15_0:=blk_frozen BK230.out 0
       have hfz15_1:=blk_frozen BK230.out 1
       have hfz15_2:=blk_frozen BK230.out 2
       have hfz15_3:=blk_frozen BK230.out 3
       go_wp2
       go_ret
       exact ⟨by first|rfl|(simp <;> rfl)|(simp [*] <;> rfl),by repeat (first|(with_reducible first|exact HB.out|apply below_alloc|apply pw_below_drewN|apply below_drew1|refine below_set ?_ GE230.out)|exact HB.out)⟩
      ·rw [if_neg c14] at H
       exact absurd H (by simp)
     ·rw [if_neg c13] at H
      exact absurd H (by simp)
    ·replace c12:=Bool.eq_false_iff.mpr c12
     subst c12
     have H1:(some x3_1) = some r:=by rw [if_neg (show ¬ (false = true) by decide)] at H;exact H
     clear H
     have H:=H1
     clear H1
     obtain rfl:=Option.some.inj H
     have hcz16_0:wr.cell? ⟨gb230,0,none⟩ = some (.string a0_0):=(blk_cell BK230.out 0).trans rfl
     have hcz16_1:wr.cell? ⟨gb230,1,none⟩ = some (.slice A0_1 l0_1.length c0_1):=(blk_cell BK230.out 1).trans rfl
     have hcz16_2:wr.cell? ⟨gb230,2,none⟩ = some (.bool false):=(blk_cell BK230.out 2).trans rfl
     have hcz16_3:wr.cell? ⟨gb230,3,none⟩ = some (.string a0_3):=(blk_cell BK230.out 3).trans rfl
     have hfz16_0:=blk_frozen BK230.out 0
     have hfz16_1:=blk_frozen BK230.out 1
     have hfz16_2:=blk_frozen BK230.out 2
     have hfz16_3:=blk_frozen BK230.out 3
     go_wp2
     go_ret
     exact ⟨by first|rfl|(simp <;> rfl)|(simp [*] <;> rfl),by repeat (first|(with_reducible first|exact HB.out|apply below_alloc|apply pw_below_drewN|apply below_drew1|refine below_set ?_ GE230.out)|exact HB.out)⟩

/-! ### spec_l1Text: function 30 -/
def spec_l1Text.f (k:Nat) (a0_0:ByteArray) (l0_1:List ByteArray) (a0_2:Bool) (a0_3:ByteArray):Option (ByteArray):=if 2 + a0_0.size ≤ 9223372036854775807 then ((spec_l1Path.f k a0_0 l0_1 a0_2 a0_3).bind fun t234=>(if ((⟨#[47,47]⟩:ByteArray) ++ a0_0).size + t234.size ≤ 9223372036854775807 then (some (((⟨#[47,47]⟩:ByteArray) ++ a0_0) ++ t234)) else (none))) else (none)
theorem spec_l1Text.mono:∀ a0 a1 a2 a3 k,LeO (spec_l1Text.f k a0 a1 a2 a3) (spec_l1Text.f (k + 1) a0 a1 a2 a3):=by
 intro a0 a1 a2 a3 k
 unfold spec_l1Text.f
 repeat' first
   | (with_reducible exact spec_l1Path.mono _ _ _ _ _)
   | (with_reducible exact LeO.refl _)
   | (with_reducible exact LeO.none _)
   | (with_reducible refine LeO.ite ?_ ?_)
   | (with_reducible refine LeO.bind ?_ (fun _=>?_))
   | exact spec_l1Path.mono _ _ _ _ _
   | exact LeO.none _
   | refine LeO.ite ?_ ?_
   | refine LeO.bind ?_ (fun _=>?_)
theorem spec_l1Text.calls (k:Nat) (a0_0:ByteArray) (A0_1:Option Addr) (c0_1:Nat) (l0_1:List ByteArray) (a0_2:Bool) (a0_3:ByteArray) (r:ByteArray) (w:World) (hr0_1:Kd.C Kd.string w A0_1 l0_1.length l0_1) (hc0_1:l0_1.length ≤ c0_1) (h:spec_l1Text.f k a0_0 l0_1 a0_2 a0_3 = some r) :
  Calls Tryd.prog 30 #[.agg #[.string a0_0,.slice A0_1 l0_1.length c0_1,.bool a0_2,.string a0_3]] w fun e w'=>e = .returned (.string r) ∧ Below w.heap.size w w':=by
 have hu24:=Tryd.underlying24
 have HR0_1:=Aside0.mk hr0_1
 have HC0_1:=Aside0.mk hc0_1
 clear hr0_1 hc0_1
 have HB:=Aside0.mk (Below.refl w.heap.size w)
 have H:(if 2 + a0_0.size ≤ 9223372036854775807 then ((spec_l1Path.f k a0_0 l0_1 a0_2 a0_3).bind fun t234=>(if ((⟨#[47,47]⟩:ByteArray) ++ a0_0).size + t234.size ≤ 9223372036854775807 then (some (((⟨#[47,47]⟩:ByteArray) ++ a0_0) ++ t234)) else (none))) else (none)) = some r:=h
 clear h
 by_cases c2:2 + a0_0.size ≤ 9223372036854775807
 ·rw [if_pos c2] at H
  have c2b0:=eq_true c2
  have c2b1:=decide_eq_true c2
  try have c2b2:(9223372036854775807 < 2 + a0_0.size) = False:=eq_false (Nat.not_lt.2 c2)
  replace H:=Option.bind_eq_some_iff.mp H
  obtain ⟨t234,A30,H⟩:=H
  replace H:(if ((⟨#[47,47]⟩:ByteArray) ++ a0_0).size + t234.size ≤ 9223372036854775807 then (some (((⟨#[47,47]⟩:ByteArray) ++ a0_0) ++ t234)) else (none)) = some r:=H
  have A3:=Aside0.mk A30
  clear A30
  by_cases c4:((⟨#[47,47]⟩:ByteArray) ++ a0_0).size + t234.size ≤ 9223372036854775807
  ·rw [if_pos c4] at H
   have c4b0:=eq_true c4
   have c4b1:=decide_eq_true c4
   try have c4b3:(9223372036854775807 < 2 + a0_0.size + t234.size) = False:=eq_false (Nat.not_lt.2 (by have h_:=c4;simp only [ByteArray.size_append] at h_;exact h_))
   try have c4b2:(9223372036854775807 < ((⟨#[47,47]⟩:ByteArray) ++ a0_0).size + t234.size) = False:=eq_false (Nat.not_lt.2 c4)
   obtain rfl:=Option.some.inj H
   go_enter Tryd.func30,Tryd.ntmps30
   try go_wp2_with (first|((with_reducible refine gate_dst (N:=1) rfl ?_);refine box_event ?hg (N:=1) ?hd (cs:=#[.string a0_0,.slice A0_1 l0_1.length c0_1,.bool a0_2,.string a0_3]) (t:=24) ?hr ?_;(case hd=>rfl);(case hg=>rfl);(case hr=>first|(go_simp;done)|(go_simp;rfl));intro gb233 hg w5 hbox hb;have n0_:=Aside0.mk (below_step (by repeat (first|(with_reducible first|exact HB.out|apply below_alloc|apply pw_below_drewN|apply below_drew1)|exact HB.out)) hb);have n1_:=Aside0.mk (hbox);have n2_:=Aside0.mk ((by rw [hg];exact (below_size (by repeat (first|(with_reducible first|exact HB.out|apply below_alloc|apply pw_below_drewN|apply below_drew1)|exact HB.out))):w.heap.size ≤ gb233));have n3_:=n2_;clear HB;have HB:=n0_;have BK233:=n1_;have GW233:=n2_;have GE233:=n3_;clear n0_ n1_ n2_ n3_;clear hb hbox hg))
   have n0_:=Aside0.mk (blk_drew BK233.out)
   have n1_:=Aside0.mk (below_drew1 HB.out)
   clear BK233
   clear HB
   have BK233:=n0_
   have HB:=n1_
   clear n0_ n1_
   refine start_ (n:=7) (S:=fun w'=>w'.cell? ⟨gb233,0,none⟩ = some (.string a0_0) ∧ w'.cell? ⟨gb233,1,none⟩ = some (.slice A0_1 l0_1.length c0_1) ∧ w'.cell? ⟨gb233,2,none⟩ = some (.bool a0_2) ∧ w'.cell? ⟨gb233,3,none⟩ = some (.string a0_3)) (ds:=[]) #[false,false,false,false,false,false,false] (by kernel_rfl) rfl rfl ⟨(blk_cell BK233.out 0).trans rfl,(blk_cell BK233.out 1).trans rfl,(blk_cell BK233.out 2).trans rfl,(blk_cell BK233.out 3).trans rfl⟩ (fun hHeld=>?_)
   generalize w5.drew = w6 at BK233 HB hHeld ⊢
   refine pure_ (i:=0) (N:=some 3) (v:=?_) (a':=?_) #[true,false,false,false,false,false,false] rfl rfl (by kernel_rfl) (fun _ _ _ h=>h) (Or.inl ⟨by rfl,?_⟩) ?_ ?_
   rotate_left
   ·intro w'
    go_simp
    with_reducible rfl
   rotate_left
   ·simp only [Act.put,List.setIfInBounds_toArray,List.set_cons_zero,List.set_cons_succ,i64_w,i32_w]
    rfl
   refine take_ (i:=1) (N:=some 4) (v:=?_) (a':=?_) #[true,true,false,false,false,false,false] rfl rfl (by kernel_rfl) (fun _ _ _ h=>h) (Or.inl ⟨by rfl,?_⟩) hHeld ?_ ?_
   rotate_left
   ·rintro w' ⟨s0,s1,s2,s3⟩
    go_simp
    with_reducible rfl
   rotate_left
   ·simp only [Act.put,List.setIfInBounds_toArray,List.set_cons_zero,List.set_cons_succ,i64_w,i32_w]
    rfl
   refine pure_ (i:=2) (N:=some 5) (v:=?_) (a':=?_) #[true,true,true,false,false,false,false] rfl rfl (by kernel_rfl) (fun _ _ _ h=>h) (Or.inl ⟨by rfl,?_⟩) ?_ ?_
   rotate_left
   ·intro w'
    go_simp
    with_reducible rfl
   rotate_left
   ·simp only [Act.put,List.setIfInBounds_toArray,List.set_cons_zero,List.set_cons_succ,i64_w,i32_w]
    rfl
   refine take_ (i:=3) (N:=some 6) (v:=?_) (a':=?_) #[true,true,true,true,false,false,false] rfl rfl (by kernel_rfl) (fun _ _ _ h=>h) (Or.inl ⟨by rfl,?_⟩) hHeld ?_ ?_
   rotate_left
   ·rintro w' ⟨s0,s1,s2,s3⟩
    go_simp
    with_reducible rfl
   rotate_left
   ·simp only [Act.put,List.setIfInBounds_toArray,List.set_cons_zero,List.set_cons_succ,i64_w,i32_w]
    rfl
   refine one_ (i:=4) (N:=some 7) #[true,true,true,true,true,false,false] rfl rfl (by kernel_rfl) (by decide) (fun K hK=>?_)
   refine goes_ Tryd.func50 (by kernel_rfl) rfl #[.agg #[.string a0_0,.slice A0_1 l0_1.length c0_1,.bool a0_2,.string a0_3]] (by rfl) rfl rfl (by (try simp only [List.map_toArray,List.map_cons,List.map_nil]);first|done|rfl|(simp only [List.length_drop,List.length_take];rfl)) ?_
   with_reducible refine (spec_l1Path.calls k a0_0 _ _ l0_1 a0_2 a0_3 t234 _ ?side1 ?side2 A3.out).mono ?_
   (case side1=>repeat (first|exact (Kd.C_below HR0_1.out HB.out)|(with_reducible refine Kd.C_alloc ?_ _)|(with_reducible refine Kd.C_drewN ?_ _)|(with_reducible refine Kd.C_drew ?_)))
   (case side2=>exact HC0_1.out)
   rintro e w7 ⟨rfl,hb⟩
   refine ⟨_,rfl,?_⟩
   have n0_:=Aside0.mk (blk_below (g:=gb233) (o:=.cells #[.string a0_0,.slice A0_1 l0_1.length c0_1,.bool a0_2,.string a0_3] 24 (0,0)) (by (with_reducible repeat (first|refine blk_drewN ?_ _|refine blk_drew ?_|refine blk_alloc ?_ _));exact BK233.out) hb)
   have n1_:=Aside0.mk (below_step (by repeat (first|(with_reducible first|exact HB.out|apply below_alloc|apply pw_below_drewN|apply below_drew1|refine below_set ?_ GE233.out)|exact HB.out)) hb)
   clear BK233
   clear HB
   have BK233:=n0_
   have HB:=n1_
   clear n0_ n1_
   (try clear hb)
   (try clear hb2)
   (try clear hk)
   (try clear hi)
   refine hK.out _ _ ⟨(blk_cell BK233.out 0).trans rfl,(blk_cell BK233.out 1).trans rfl,(blk_cell BK233.out 2).trans rfl,(blk_cell BK233.out 3).trans rfl⟩ (fun hHeld=>?_)
   clear hK K
   refine norm_ (a':=?_) ?_ ?_
   rotate_left
   ·show Act.put _ (some 7) _ = _
    simp only [Act.put,List.setIfInBounds_toArray,List.set_cons_zero,List.set_cons_succ,i64_w,i32_w]
    rfl
   refine pure_ (i:=5) (N:=some 8) (v:=?_) (a':=?_) #[true,true,true,true,true,true,false] rfl rfl (by kernel_rfl) (fun _ _ _ h=>h) (Or.inl ⟨by rfl,?_⟩) ?_ ?_
   rotate_left
   ·intro w'
    go_simp
    with_reducible rfl
   rotate_left
   ·simp only [Act.put,List.setIfInBounds_toArray,List.set_cons_zero,List.set_cons_succ,i64_w,i32_w]
    rfl
   refine pure_ (i:=6) (N:=some 2) (v:=?_) (a':=?_) #[true,true,true,true,true,true,true] rfl rfl (by kernel_rfl) (fun _ _ _ h=>h) (Or.inl ⟨by rfl,?_⟩) ?_ ?_
   rotate_left
   ·intro w'
    go_simp
    with_reducible rfl
   rotate_left
   ·simp only [Act.put,List.setIfInBounds_toArray,List.set_cons_zero,List.set_cons_succ,i64_w,i32_w]
    rfl
   refine done_ (by kernel_rfl) ?_
   try go_wp2
   go_ret
   exact ⟨by first|rfl|(simp <;> rfl)|(simp [*] <;> rfl),by repeat (first|(with_reducible first|exact HB.out|apply below_alloc|apply pw_below_drewN|apply below_drew1|refine below_set ?_ GE233.out)|exact HB.out)⟩
  ·rw [if_neg c4] at H
   exact absurd H (by simp)
 ·rw [if_neg c2] at H
  exact absurd H (by simp)

/-! ### spec_l6In: function 67 -/
def spec_l6In.f (a0:Int) (a1:Int) (a2:Int):Option (Bool):=if a0 ≥ a1 then (some (decide (a0 ≤ a2))) else (some false)
theorem spec_l6In.calls (a0:Int) (a1:Int) (a2:Int) (r:Bool) (w:World) (h:spec_l6In.f a0 a1 a2 = some r) :
  Calls Tryd.prog 67 #[.int .i64 a0,.int .i64 a1,.int .i64 a2] w fun e w'=>e = .returned (.bool r) ∧ Drawn0 w w':=by
 have H:(if a0 ≥ a1 then (some (decide (a0 ≤ a2))) else (some false)) = some r:=h
 clear h
 by_cases c4:a0 ≥ a1
 ·rw [if_pos c4] at H
  have c4b0:decide (a1 ≤ a0) = true:=decide_eq_true c4
  clear c4
  obtain rfl:=Option.some.inj H
  go_enter Tryd.func67,Tryd.ntmps67
  go_wp2
  go_ret
  exact ⟨by first|rfl|(simp;done)|(simp only [i64_w,i32_w];done)|(simp only [i64_w,i32_w];rfl)|(simp [*];done)|(simp [emp_bne,emp_beq];done),by repeat (first|exact Drawn0.refl _|apply Drawn0.step)⟩
 ·rw [if_neg c4] at H
  have c4b0:decide (a1 ≤ a0) = false:=decide_eq_false c4
  clear c4
  obtain rfl:=Option.some.inj H
  go_enter Tryd.func67,Tryd.ntmps67
  go_wp2
  go_ret
  exact ⟨by first|rfl|(simp;done)|(simp only [i64_w,i32_w];done)|(simp only [i64_w,i32_w];rfl)|(simp [*];done)|(simp [emp_bne,emp_beq];done),by repeat (first|exact Drawn0.refl _|apply Drawn0.step)⟩

/-! ### spec_l1House: function 48 -/
def spec_l1House.l0:Nat → ByteArray → Int → Option (Bool)
 | 0,_,_=>none
 | k + 1,x0,x3=>if x3 < (x0.size:Int) then (if 0 ≤ x3 then (if (bt x0 x3) < 97 then (some false) else (if (bt x0 x3) > 122 then (some false) else (spec_l1House.l0 k x0 (wrap64 (x3 + 1))))) else (none)) else ((spec_l6In.f (x0.size:Int) 1 5).bind fun t235=>(some t235))
def spec_l1House.f (k:Nat) (a0:ByteArray):Option (Bool):=spec_l1House.l0 k a0 0
theorem spec_l1House.mono_l:∀ k,(∀ y0 y1,LeO (spec_l1House.l0 k y0 y1) (spec_l1House.l0 (k + 1) y0 y1))
 | 0=>fun _ _ r h=>by simp [spec_l1House.l0] at h
 | k + 1=>by
  have ih0:=spec_l1House.mono_l k
  ·intro y0 y1
   unfold spec_l1House.l0
   repeat' first
   | (with_reducible exact ih0 _ _)
   | (with_reducible exact LeO.refl _)
   | (with_reducible exact LeO.none _)
   | (with_reducible refine LeO.ite ?_ ?_)
   | (with_reducible refine LeO.bind ?_ (fun _=>?_))
   | exact ih0 _ _
   | exact LeO.none _
   | refine LeO.ite ?_ ?_
   | refine LeO.bind ?_ (fun _=>?_)
theorem spec_l1House.mono:∀ a0 k,LeO (spec_l1House.f k a0) (spec_l1House.f (k + 1) a0):=by
 intro a0 k
 have ih0:=spec_l1House.mono_l k
 unfold spec_l1House.f
 repeat' first
   | (with_reducible exact ih0 _ _)
   | (with_reducible exact LeO.refl _)
   | (with_reducible exact LeO.none _)
   | (with_reducible refine LeO.ite ?_ ?_)
   | (with_reducible refine LeO.bind ?_ (fun _=>?_))
   | exact ih0 _ _
   | exact LeO.none _
   | refine LeO.ite ?_ ?_
   | refine LeO.bind ?_ (fun _=>?_)
theorem spec_l1House.calls (k:Nat) (a0:ByteArray) (r:Bool) (w:World) (h:spec_l1House.f k a0 = some r) :
  Calls Tryd.prog 48 #[.string a0] w fun e w'=>e = .returned (.bool r) ∧ Drawn0 w w':=by
 have H:(spec_l1House.l0 k a0 0) = some r:=h
 clear h
 have H':=Aside0.mk H
 clear H
 go_enter Tryd.func48,Tryd.ntmps48
 go_wp2
 go_loopg [3] k (fun kq v3 w'=>∃ (x3_1:Int),v3 = .int .i64 x3_1 ∧ Aside0 (spec_l1House.l0 kq a0 x3_1 = some r) ∧ Aside0 (kq ≤ k) ∧ Drawn0 w w')
 case atStart=>exact ⟨(0),(by first|rfl|(simp;done)|(simp only [i64_w,i32_w];done)|(simp only [i64_w,i32_w];rfl)|(simp [*];done)|(simp [emp_bne,emp_beq];done)),H',⟨Nat.le_refl _⟩,by repeat (first|exact Drawn0.refl _|apply Drawn0.step)⟩
 case round =>
  clear H'
  obtain ⟨x3_1,rfl,HA,HK1,⟨m1,rfl⟩⟩:=hrel
  cases gk with
  | zero=>exact absurd HA.out (by simp [spec_l1House.l0])
  | succ k1 =>
   have H:=HA.out
   clear HA
   simp only [spec_l1House.l0] at H
   by_cases c2:x3_1 < (a0.size:Int)
   ·rw [if_pos c2] at H
    have c2b0:decide (x3_1 < (a0.size:Int)) = true:=decide_eq_true c2
    clear c2
    by_cases c3:0 ≤ x3_1
    ·rw [if_pos c3] at H
     have c3b0:decide (0 ≤ x3_1) = true:=decide_eq_true c3
     clear c3
     by_cases c5:(bt a0 x3_1) < 97
     ·rw [if_pos c5] at H
      have c5b0:decide ((bt a0 x3_1) < 97) = true:=decide_eq_true c5
      clear c5
      obtain rfl:=Option.some.inj H
      have p4:0 ≤ (x3_1:Int):=of_decide_eq_true (by first|(with_reducible assumption)|assumption)
      have q4:x3_1 < (a0.size:Int):=of_decide_eq_true (by first|(with_reducible assumption)|assumption)
      have hx4:=bt_at a0 x3_1
      replace p4:=eq_true p4
      replace q4:=eq_true q4
      go_wp2
      go_ret
      exact ⟨by first|rfl|(simp;done)|(simp only [i64_w,i32_w];done)|(simp only [i64_w,i32_w];rfl)|(simp [*];done)|(simp [emp_bne,emp_beq];done),by repeat (first|exact Drawn0.refl _|apply Drawn0.step)⟩
     ·rw [if_neg c5] at H
      have c5b0:decide ((bt a0 x3_1) < 97) = false:=decide_eq_false c5
      clear c5
      by_cases c7:(bt a0 x3_1) > 122
      ·rw [if_pos c7] at H
       have c7b0:decide (122 < (bt a0 x3_1)) = true:=decide_eq_true c7
       clear c7
       obtain rfl:=Option.some.inj H
       have p4:0 ≤ (x3_1:Int):=of_decide_eq_true (by first|(with_reducible assumption)|assumption)
       have q4:x3_1 < (a0.size:Int):=of_decide_eq_true (by first|(with_reducible assumption)|assumption)
       have hx4:=bt_at a0 x3_1
       replace p4:=eq_true p4
       replace q4:=eq_true q4
       have p6:0 ≤ (x3_1:Int):=of_decide_eq_true (by first|(with_reducible assumption)|assumption)
       have q6:x3_1 < (a0.size:Int):=of_decide_eq_true (by first|(with_reducible assumption)|assumption)
       have hx6:=bt_at a0 x3_1
       replace p6:=eq_true p6
       replace q6:=eq_true q6
       go_wp2
       go_ret
       exact ⟨by first|rfl|(simp;done)|(simp only [i64_w,i32_w];done)|(simp only [i64_w,i32_w];rfl)|(simp [*];done)|(simp [emp_bne,emp_beq];done),by repeat (first|exact Drawn0.refl _|apply Drawn0.step)⟩
      ·rw [if_neg c7] at H
       have c7b0:decide (122 < (bt a0 x3_1)) = false:=decide_eq_false c7
       clear c7
       have H':=Aside0.mk H
       clear H
       have p4:0 ≤ (x3_1:Int):=of_decide_eq_true (by first|(with_reducible assumption)|assumption)
       have q4:x3_1 < (a0.size:Int):=of_decide_eq_true (by first|(with_reducible assumption)|assumption)
       have hx4:=bt_at a0 x3_1
       replace p4:=eq_true p4
       replace q4:=eq_true q4
       have p6:0 ≤ (x3_1:Int):=of_decide_eq_true (by first|(with_reducible assumption)|assumption)
       have q6:x3_1 < (a0.size:Int):=of_decide_eq_true (by first|(with_reducible assumption)|assumption)
       have hx6:=bt_at a0 x3_1
       replace p6:=eq_true p6
       replace q6:=eq_true q6
       go_wp2
       go_roundg k1
       case measure=>have:=HK1.out;omega
       case rel=>exact ⟨(wrap64 (x3_1 + 1)),(by first|rfl|(simp;done)|(simp only [i64_w,i32_w];done)|(simp only [i64_w,i32_w];rfl)|(simp [*];done)|(simp [emp_bne,emp_beq];done)),H',⟨by have:=HK1.out;omega⟩,by repeat (first|exact Drawn0.refl _|apply Drawn0.step)⟩
    ·rw [if_neg c3] at H
     exact absurd H (by simp)
   ·rw [if_neg c2] at H
    have c2b0:decide (x3_1 < (a0.size:Int)) = false:=decide_eq_false c2
    clear c2
    replace H:=Option.bind_eq_some_iff.mp H
    obtain ⟨t235,A80,H⟩:=H
    replace H:(some t235) = some r:=H
    have A8:=Aside0.mk A80
    clear A80
    obtain rfl:=Option.some.inj H
    go_wp2_with (first|((with_reducible refine gate_callee (f:=67) rfl ?_);refine goesL_ (some 22) rfl rfl Tryd.func67 (by kernel_rfl) rfl #[.int .i64 (a0.size:Int),.int .i64 1,.int .i64 5] rfl (by (try simp only [List.map_toArray,List.map_cons,List.map_nil]);first|done|rfl|(simp only [List.length_drop,List.length_take];rfl)) ?_;(with_reducible refine (spec_l6In.calls (a0.size:Int) 1 5 t235 _ A8.out).mono ?_);rintro e w' ⟨rfl,⟨nd,rfl⟩⟩;refine ⟨_,rfl,?_⟩))
    go_ret
    exact ⟨by first|rfl|(simp;done)|(simp only [i64_w,i32_w];done)|(simp only [i64_w,i32_w];rfl)|(simp [*];done)|(simp [emp_bne,emp_beq];done),by repeat (first|exact Drawn0.refl _|apply Drawn0.step)⟩

/-! ### spec_l1Hex: function 70 -/
mutual
def spec_l1Hex.j0:Nat → Int → Bool → Option (Int)
 | 0,_,_=>none
 | k + 1,x0,x3=>if x3 = true then (some ((x0 - 48) % 256)) else (if x0 ≥ 97 then (spec_l1Hex.j1 k x0 (decide (x0 ≤ 102))) else (spec_l1Hex.j1 k x0 false))
def spec_l1Hex.j1:Nat → Int → Bool → Option (Int)
 | 0,_,_=>none
 | k + 1,x0,x13=>if x13 = true then (some (((x0 - 97) % 256) + 10)) else (if x0 ≥ 65 then (if x0 ≤ 70 then (some (((x0 - 65) % 256) + 10)) else (some (-1))) else (some (-1)))
end
def spec_l1Hex.f (k:Nat) (a0:Int):Option (Int):=if a0 ≥ 48 then (spec_l1Hex.j0 k a0 (decide (a0 ≤ 57))) else (spec_l1Hex.j0 k a0 false)
theorem spec_l1Hex.mono_l:∀ k,(∀ y0 y1,LeO (spec_l1Hex.j0 k y0 y1) (spec_l1Hex.j0 (k + 1) y0 y1)) ∧ (∀ y0 y1,LeO (spec_l1Hex.j1 k y0 y1) (spec_l1Hex.j1 (k + 1) y0 y1))
 | 0=>⟨fun _ _ r h=>by simp [spec_l1Hex.j0] at h,fun _ _ r h=>by simp [spec_l1Hex.j1] at h⟩
 | k + 1=>by
  obtain ⟨ih0,ih1⟩:=spec_l1Hex.mono_l k
  refine ⟨?_,?_⟩
  ·intro y0 y1
   unfold spec_l1Hex.j0
   repeat' first
   | (with_reducible exact ih0 _ _)
   | (with_reducible exact ih1 _ _)
   | (with_reducible exact LeO.refl _)
   | (with_reducible exact LeO.none _)
   | (with_reducible refine LeO.ite ?_ ?_)
   | (with_reducible refine LeO.bind ?_ (fun _=>?_))
   | exact ih0 _ _
   | exact ih1 _ _
   | exact LeO.none _
   | refine LeO.ite ?_ ?_
   | refine LeO.bind ?_ (fun _=>?_)
  ·intro y0 y1
   unfold spec_l1Hex.j1
   repeat' first
   | (with_reducible exact ih0 _ _)
   | (with_reducible exact ih1 _ _)
   | (with_reducible exact LeO.refl _)
   | (with_reducible exact LeO.none _)
   | (with_reducible refine LeO.ite ?_ ?_)
   | (with_reducible refine LeO.bind ?_ (fun _=>?_))
   | exact ih0 _ _
   | exact ih1 _ _
   | exact LeO.none _
   | refine LeO.ite ?_ ?_
   | refine LeO.bind ?_ (fun _=>?_)
theorem spec_l1Hex.mono:∀ a0 k,LeO (spec_l1Hex.f k a0) (spec_l1Hex.f (k + 1) a0):=by
 intro a0 k
 obtain ⟨ih0,ih1⟩:=spec_l1Hex.mono_l k
 unfold spec_l1Hex.f
 repeat' first
   | (with_reducible exact ih0 _ _)
   | (with_reducible exact ih1 _ _)
   | (with_reducible exact LeO.refl _)
   | (with_reducible exact LeO.none _)
   | (with_reducible refine LeO.ite ?_ ?_)
   | (with_reducible refine LeO.bind ?_ (fun _=>?_))
   | exact ih0 _ _
   | exact ih1 _ _
   | exact LeO.none _
   | refine LeO.ite ?_ ?_
   | refine LeO.bind ?_ (fun _=>?_)
theorem spec_l1Hex.calls (k:Nat) (a0:Int) (r:Int) (w:World) (h:spec_l1Hex.f k a0 = some r) :
  Calls Tryd.prog 70 #[.int .u8 a0] w fun e w'=>e = .returned (.int .i64 r) ∧ Drawn0 w w':=by
 have H:(if a0 ≥ 48 then (spec_l1Hex.j0 k a0 (decide (a0 ≤ 57))) else (spec_l1Hex.j0 k a0 false)) = some r:=h
 clear h
 have HC2:=Aside0.mk H
 clear H
 go_enter Tryd.func70,Tryd.ntmps70
 go_upto_region 1 with (fail)
 go_cut [3] (fun v3 wc=>∃ (kq:Nat) (x3_1:Bool),v3 = .bool x3_1 ∧ Aside0 (spec_l1Hex.j0 kq a0 x3_1 = some r) ∧ Aside0 (kq ≤ k) ∧ Drawn0 w wc)
 case first =>
  have H:=HC2.out
  clear HC2
  by_cases c3:a0 ≥ 48
  ·rw [if_pos c3] at H
   have c3b0:decide (48 ≤ a0) = true:=decide_eq_true c3
   clear c3
   (first|rw [c3b0]|(simp only [i64_w,i32_w];rw [c3b0])|skip)
   have H':=Aside0.mk H
   clear H
   go_wp2
   go_meet
   case rel=>exact ⟨_,(decide (a0 ≤ 57)),(by first|rfl|(simp;done)|(simp only [i64_w,i32_w];done)|(simp only [i64_w,i32_w];rfl)|(simp [*];done)|(simp [emp_bne,emp_beq];done)),H',⟨by first|omega|exact Nat.le_refl _⟩,by repeat (first|exact Drawn0.refl _|apply Drawn0.step)⟩
  ·rw [if_neg c3] at H
   have c3b0:decide (48 ≤ a0) = false:=decide_eq_false c3
   clear c3
   (first|rw [c3b0]|(simp only [i64_w,i32_w];rw [c3b0])|skip)
   have H':=Aside0.mk H
   clear H
   go_wp2
   go_meet
   case rel=>exact ⟨_,(false),(by first|rfl|(simp;done)|(simp only [i64_w,i32_w];done)|(simp only [i64_w,i32_w];rfl)|(simp [*];done)|(simp [emp_bne,emp_beq];done)),H',⟨by first|omega|exact Nat.le_refl _⟩,by repeat (first|exact Drawn0.refl _|apply Drawn0.step)⟩
 case rest =>
  clear HC2
  try clear p2
  try clear c3
  try clear c3b0
  obtain ⟨kq,x3_1,rfl,HA,HJ1,⟨mc1,rfl⟩⟩:=hcut
  cases kq with
  | zero=>exact absurd HA.out (by simp [spec_l1Hex.j0])
  | succ kj1 =>
   have H:=HA.out
   clear HA
   simp only [spec_l1Hex.j0] at H
   by_cases c4:x3_1 = true
   ·subst c4
    have H1:(some ((a0 - 48) % 256)) = some r:=by rw [if_pos rfl] at H;exact H
    clear H
    have H:=H1
    clear H1
    obtain rfl:=Option.some.inj H
    go_wp2
    go_ret
    exact ⟨by first|rfl|(simp;done)|(simp only [i64_w,i32_w];done)|(simp only [i64_w,i32_w];rfl)|(simp [*];done)|(simp [emp_bne,emp_beq];done),by repeat (first|exact Drawn0.refl _|apply Drawn0.step)⟩
   ·replace c4:=Bool.eq_false_iff.mpr c4
    subst c4
    have H1:(if a0 ≥ 97 then (spec_l1Hex.j1 kj1 a0 (decide (a0 ≤ 102))) else (spec_l1Hex.j1 kj1 a0 false)) = some r:=by rw [if_neg (show ¬ (false = true) by decide)] at H;exact H
    clear H
    have H:=H1
    clear H1
    have HC5:=Aside0.mk H
    clear H
    go_upto_region 3 with (fail)
    go_cut [13] (fun v13 wc=>∃ (kq:Nat) (x13_4:Bool),v13 = .bool x13_4 ∧ Aside0 (spec_l1Hex.j1 kq a0 x13_4 = some r) ∧ Aside0 (kq ≤ kj1) ∧ Drawn0 w wc)
    case first =>
     have H:=HC5.out
     clear HC5
     by_cases c6:a0 ≥ 97
     ·rw [if_pos c6] at H
      have c6b0:decide (97 ≤ a0) = true:=decide_eq_true c6
      clear c6
      (first|rw [c6b0]|(simp only [i64_w,i32_w];rw [c6b0])|skip)
      have H':=Aside0.mk H
      clear H
      go_wp2
      go_meet
      case rel=>exact ⟨_,(decide (a0 ≤ 102)),(by first|rfl|(simp;done)|(simp only [i64_w,i32_w];done)|(simp only [i64_w,i32_w];rfl)|(simp [*];done)|(simp [emp_bne,emp_beq];done)),H',⟨by have:=HJ1.out;first|omega|exact Nat.le_refl _⟩,by repeat (first|exact Drawn0.refl _|apply Drawn0.step)⟩
     ·rw [if_neg c6] at H
      have c6b0:decide (97 ≤ a0) = false:=decide_eq_false c6
      clear c6
      (first|rw [c6b0]|(simp only [i64_w,i32_w];rw [c6b0])|skip)
      have H':=Aside0.mk H
      clear H
      go_wp2
      go_meet
      case rel=>exact ⟨_,(false),(by first|rfl|(simp;done)|(simp only [i64_w,i32_w];done)|(simp only [i64_w,i32_w];rfl)|(simp [*];done)|(simp [emp_bne,emp_beq];done)),H',⟨by have:=HJ1.out;first|omega|exact Nat.le_refl _⟩,by repeat (first|exact Drawn0.refl _|apply Drawn0.step)⟩
    case rest =>
     clear HC5
     try clear c1
     try clear p2
     try clear c3
     try clear c3b0
     try clear c4
     try clear c6
     try clear c6b0
     try clear p2
     obtain ⟨kq,x13_4,rfl,HA,HJ4,⟨mc4,rfl⟩⟩:=hcut
     cases kq with
     | zero=>exact absurd HA.out (by simp [spec_l1Hex.j1])
     | succ kj4 =>
      have H:=HA.out
      clear HA
      simp only [spec_l1Hex.j1] at H
      by_cases c7:x13_4 = true
      ·subst c7
       have H1:(some (((a0 - 97) % 256) + 10)) = some r:=by rw [if_pos rfl] at H;exact H
       clear H
       have H:=H1
       clear H1
       obtain rfl:=Option.some.inj H
       go_wp2
       go_ret
       exact ⟨by first|rfl|(simp;done)|(simp only [i64_w,i32_w];done)|(simp only [i64_w,i32_w];rfl)|(simp [*];done)|(simp [emp_bne,emp_beq];done),by repeat (first|exact Drawn0.refl _|apply Drawn0.step)⟩
      ·replace c7:=Bool.eq_false_iff.mpr c7
       subst c7
       have H1:(if a0 ≥ 65 then (if a0 ≤ 70 then (some (((a0 - 65) % 256) + 10)) else (some (-1))) else (some (-1))) = some r:=by rw [if_neg (show ¬ (false = true) by decide)] at H;exact H
       clear H
       have H:=H1
       clear H1
       by_cases c8:a0 ≥ 65
       ·rw [if_pos c8] at H
        have c8b0:decide (65 ≤ a0) = true:=decide_eq_true c8
        clear c8
        by_cases c9:a0 ≤ 70
        ·rw [if_pos c9] at H
         have c9b0:decide (a0 ≤ 70) = true:=decide_eq_true c9
         clear c9
         obtain rfl:=Option.some.inj H
         go_wp2
         go_ret
         exact ⟨by first|rfl|(simp;done)|(simp only [i64_w,i32_w];done)|(simp only [i64_w,i32_w];rfl)|(simp [*];done)|(simp [emp_bne,emp_beq];done),by repeat (first|exact Drawn0.refl _|apply Drawn0.step)⟩
        ·rw [if_neg c9] at H
         have c9b0:decide (a0 ≤ 70) = false:=decide_eq_false c9
         clear c9
         obtain rfl:=Option.some.inj H
         go_wp2
         go_ret
         exact ⟨by first|rfl|(simp;done)|(simp only [i64_w,i32_w];done)|(simp only [i64_w,i32_w];rfl)|(simp [*];done)|(simp [emp_bne,emp_beq];done),by repeat (first|exact Drawn0.refl _|apply Drawn0.step)⟩
       ·rw [if_neg c8] at H
        have c8b0:decide (65 ≤ a0) = false:=decide_eq_false c8
        clear c8
        obtain rfl:=Option.some.inj H
        go_wp2
        go_ret
        exact ⟨by first|rfl|(simp;done)|(simp only [i64_w,i32_w];done)|(simp only [i64_w,i32_w];rfl)|(simp [*];done)|(simp [emp_bne,emp_beq];done),by repeat (first|exact Drawn0.refl _|apply Drawn0.step)⟩

end Go.Proofs.YtochmlkladpfgaaDoor.P
