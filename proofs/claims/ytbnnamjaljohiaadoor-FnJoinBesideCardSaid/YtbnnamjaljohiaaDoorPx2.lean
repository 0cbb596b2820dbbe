-- Written by a program of this session (patch_print.py over the kit's print; given texts in wip/given).
-- Cut down by a program of this session (wip/tools/prune.py) to what its claim can name.
import Derived.Test.YtbnnamjaljohiaaDoorSq
import Derived.Test.YtbnnamjaljohiaaDoorPx0
import Derived.Test.YtbnnamjaljohiaaDoorPx1
namespace Go.Proofs.YtbnnamjaljohiaaDoor.P
open Go.RowKit Go.Proofs.YtbnnamjaljohiaaDoorW.PrintWords Go.Proofs.YtbnnamjaljohiaaDoorW.PrintLast Go.Proofs.YtbnnamjaljohiaaDoorW.PrintMore
attribute [local go_sem] max2_int min2_int max_two min_two max_three min_three max_four min_four   -- for this text's walks alone
set_option linter.unusedVariables false
set_option linter.unusedSimpArgs false
set_option maxHeartbeats 8000000
set_option maxRecDepth 100000

/-! ### spec_l6Open: function 29 -/
def spec_l6Open.f (l0:List Int):Option (List Int × Int):=if (l0.length:Int) > 2000 then (if 2000 ≤ (l0.length:Int) then (some (l0.take 2000,0)) else (none)) else (some (l0,0))
theorem spec_l6Open.calls (A0:Option Addr) (c0:Nat) (l0:List Int) (r1:List Int) (r2:Int) (w0 w:World) (hB:Below w0.heap.size w0 w) (hr0:Kd.C (Kd.int .u8) w0 A0 l0.length l0) (hc0:l0.length ≤ c0) (h:spec_l6Open.f l0 = some (r1,r2)) :
  Calls Tryd.prog 29 #[.slice A0 l0.length c0] w fun e w'=>∃ g_:Nat,e = .returned (.pointer (some ⟨g_,0,none⟩)) ∧ IsS60 w0 w' g_ r1 r2 ∧ Below w0.heap.size w0 w' ∧ Below w.heap.size w w':=by
 have hu60:=Tryd.underlying60
 have HR0:=Am hr0
 have HC0:=Am hc0
 clear hr0 hc0
 have HBW:=Am (Below.refl w.heap.size w)
 have HW0:=Am hB.size
 have HB:=Am hB
 clear hB
 have H:(if (l0.length:Int) > 2000 then (if 2000 ≤ (l0.length:Int) then (some (l0.take 2000,0)) else (none)) else (some (l0,0))) = some (r1,r2):=h
 clear h
 by_cases c2:(l0.length:Int) > 2000
 ·rw [if_pos c2] at H
  have c2b0:decide (2000 < (l0.length:Int)) = true:=decide_eq_true c2
  have c2b1:decide (2000 < l0.length) = true:=decide_eq_true (by omega)
  clear c2
  by_cases c3:2000 ≤ (l0.length:Int)
  ·rw [if_pos c3] at H
   have c3b0:=eq_true c3
   have c3b1:=decide_eq_true c3
   clear c3
   simp only [Option.some.injEq,Prod.mk.injEq] at H
   obtain ⟨rfl,rfl⟩:=H
   obtain ⟨i04,hi04,_,hsz4,_⟩:=info_parts info5
   obtain ⟨hcut4,hA4,hC4⟩:=print_take_of (P:=Tryd.prog) (Value.int .u8) 0 22 5 .i64 Tryd.underlying22 hi04 hsz4 A0 c0 l0 2000 (by omega) (oD (by assumption)) HC0.out
   have HR101:=Am (Kd.C_of_reads (h1:=fun _=>rfl) (hA4 _ (Kd.reads_of_C HR0.out)))
   have HC101:=Am hC4
   clear hA4 hC4 hi04 hsz4
   go_enter Tryd.func29,Tryd.ntmps29
   go_wp2_with (first|((with_reducible refine gate_dst (N:=10) rfl ?_);refine box_event ?hg (N:=10) ?hd (cs:=#[.slice A0 (l0.take 2000).length c0, .int .i64 0]) (t:=60) ?hr ?_;(case hd=>rfl);(case hg=>rfl);(case hr=>(go_simp <;> rfl));intro gb102 hg w5 hbox hb;have n0_:=Am (below_step HBW.out hb);have n1_:=Am (bT (by repeat (first|(with_reducible first|exact HB.out|apply bA|apply bN|apply bD)|exact HB.out)) hb);have n2_:=Am (hbox);have n3_:=Am ((by rw [hg];exact (bU (by repeat (first|(with_reducible first|exact HBW.out|apply bA|apply bN|apply bD)|exact HBW.out))):w.heap.size ≤ gb102));have n4_:=Am ((Nat.le_trans HW0.out (by rw [hg];exact (bU (by repeat (first|(with_reducible first|exact HBW.out|apply bA|apply bN|apply bD)|exact HBW.out))):w.heap.size ≤ gb102):w0.heap.size ≤ gb102));clear HBW HB;have HBW:=n0_;have HB:=n1_;have BK102:=n2_;have GW102:=n3_;have GE102:=n4_;clear n0_ n1_ n2_ n3_ n4_ hb hbox hg))
   go_ret
   exact ⟨_,rfl,(show IsS60 w0 _ gb102 (l0.take 2000) 0 from ⟨_,_,by refine bB ?_;exact BK102.out,GE102.out,HR101.out⟩),by repeat (first|(with_reducible first|exact HB.out|apply bA|apply bN|apply bD|refine bS ?_ GE102.out)|exact HB.out),by repeat (first|(with_reducible first|exact HBW.out|apply bA|apply bN|apply bD|refine bS ?_ GW102.out)|exact HBW.out)⟩
  ·rw [if_neg c3] at H
   exact absurd H (by simp)
 ·rw [if_neg c2] at H
  have c2b0:decide (2000 < (l0.length:Int)) = false:=decide_eq_false c2
  have c2b1:decide (2000 < l0.length) = false:=decide_eq_false (by omega)
  clear c2
  simp only [Option.some.injEq,Prod.mk.injEq] at H
  obtain ⟨rfl,rfl⟩:=H
  go_enter Tryd.func29,Tryd.ntmps29
  go_wp2_with (first|((with_reducible refine gate_dst (N:=10) rfl ?_);refine box_event ?hg (N:=10) ?hd (cs:=#[.slice A0 l0.length c0, .int .i64 0]) (t:=60) ?hr ?_;(case hd=>rfl);(case hg=>rfl);(case hr=>(go_simp <;> rfl));intro gb103 hg w6 hbox hb;have n0_:=Am (below_step HBW.out hb);have n1_:=Am (bT (by repeat (first|(with_reducible first|exact HB.out|apply bA|apply bN|apply bD)|exact HB.out)) hb);have n2_:=Am (hbox);have n3_:=Am ((by rw [hg];exact (bU (by repeat (first|(with_reducible first|exact HBW.out|apply bA|apply bN|apply bD)|exact HBW.out))):w.heap.size ≤ gb103));have n4_:=Am ((Nat.le_trans HW0.out (by rw [hg];exact (bU (by repeat (first|(with_reducible first|exact HBW.out|apply bA|apply bN|apply bD)|exact HBW.out))):w.heap.size ≤ gb103):w0.heap.size ≤ gb103));clear HBW HB;have HBW:=n0_;have HB:=n1_;have BK103:=n2_;have GW103:=n3_;have GE103:=n4_;clear n0_ n1_ n2_ n3_ n4_ hb hbox hg))
  go_ret
  exact ⟨_,rfl,(show IsS60 w0 _ gb103 l0 0 from ⟨_,_,by refine bB ?_;exact BK103.out,GE103.out,HR0.out⟩),by repeat (first|(with_reducible first|exact HB.out|apply bA|apply bN|apply bD|refine bS ?_ GE103.out)|exact HB.out),by repeat (first|(with_reducible first|exact HBW.out|apply bA|apply bN|apply bD|refine bS ?_ GW103.out)|exact HBW.out)⟩

/-! ### spec_l1Cut: function 32 -/
def spec_l1Cut.l0:Nat → ByteArray → Int → Int → Option (ByteArray × ByteArray × Bool)
 | 0,_,_,_=>none
 | k + 1,x0,x1,x7=>if x7 < (x0.size:Int) then (if 0 ≤ x7 then (if (bt x0 x7) = x1 then (if x7 ≤ (x0.size:Int) then (if 0 ≤ (wrap64 (x7 + 1)) then (if (wrap64 (x7 + 1)) ≤ (x0.size:Int) then (some (x0.extract 0 (x7:Int).toNat,x0.extract ((wrap64 (x7 + 1)):Int).toNat x0.size,true)) else (none)) else (none)) else (none)) else (spec_l1Cut.l0 k x0 x1 (wrap64 (x7 + 1)))) else (none)) else (some (x0,(⟨#[]⟩:ByteArray),false))
def spec_l1Cut.f (k:Nat) (a0:ByteArray) (a1:Int):Option (ByteArray × ByteArray × Bool):=spec_l1Cut.l0 k a0 a1 0
theorem spec_l1Cut.mono_l:∀ k,(∀ y0 y1 y2,LeO (spec_l1Cut.l0 k y0 y1 y2) (spec_l1Cut.l0 (k + 1) y0 y1 y2))
 | 0=>fun _ _ _ r h=>by simp [spec_l1Cut.l0] at h
 | k + 1=>by
  have ih0:=spec_l1Cut.mono_l k
  ·intro y0 y1 y2
   unfold spec_l1Cut.l0
   repeat' first
   | (with_reducible apply ih0)
   | (with_reducible exact LeO.refl _)
   | (with_reducible exact LeO.none _)
   | (with_reducible refine LeO.ite ?_ ?_)
   | (with_reducible refine LeO.bind ?_ (fun _=>?_))




theorem spec_l1Cut.mono:∀ a0 a1 k,LeO (spec_l1Cut.f k a0 a1) (spec_l1Cut.f (k + 1) a0 a1):=by
 intro a0 a1 k
 have ih0:=spec_l1Cut.mono_l k
 unfold spec_l1Cut.f
 repeat' first
   | (with_reducible apply ih0)
   | (with_reducible exact LeO.refl _)
   | (with_reducible exact LeO.none _)
   | (with_reducible refine LeO.ite ?_ ?_)
   | (with_reducible refine LeO.bind ?_ (fun _=>?_))




theorem spec_l1Cut.calls (k:Nat) (a0:ByteArray) (a1:Int) (r1:ByteArray) (r2:ByteArray) (r3:Bool) (w:World) (h:spec_l1Cut.f k a0 a1 = some (r1,r2,r3)) :
  Calls Tryd.prog 32 #[.string a0, .int .u8 a1] w fun e w'=>e = .returned (.tuple #[.string r1, .string r2, .bool r3]) ∧ Drawn0 w w':=by
 have H:(spec_l1Cut.l0 k a0 a1 0) = some (r1,r2,r3):=h
 clear h
 have H':=Am H
 clear H
 go_enter Tryd.func32,Tryd.ntmps32
 go_wp2
 repeat (go_quiet (fail);try go_wp2)
 go_loopg [7] k (fun kq v7 w'=>∃ (x7_1:Int),v7 = .int .i64 x7_1 ∧ Aside0 (spec_l1Cut.l0 kq a0 a1 x7_1 = some (r1,r2,r3)) ∧ Aside0 (kq ≤ k) ∧ Drawn0 w w')
 case atStart=>exact ⟨(0),(by first|rfl|(simp;done)|(simp only [i64_w,i32_w] <;> rfl)|(simp [*];done)|(simp [emp_bne,emp_beq];done)),H',⟨Nat.le_refl _⟩,by repeat (first|exact Drawn0.refl _|apply Drawn0.step)⟩
 case round =>
  clear H'
  try clear p2
  obtain ⟨x7_1,rfl,HA,HK1,⟨m1,rfl⟩⟩:=hrel
  cases gk with
  | zero=>exact absurd HA.out (by simp [spec_l1Cut.l0])
  | succ k1 =>
   have H:=HA.out
   clear HA
   simp only [spec_l1Cut.l0] at H
   by_cases c3:x7_1 < (a0.size:Int)
   ·rw [if_pos c3] at H
    have c3b0:decide (x7_1 < (a0.size:Int)) = true:=decide_eq_true c3
    clear c3
    by_cases c4:0 ≤ x7_1
    ·rw [if_pos c4] at H
     have c4b0:decide (0 ≤ x7_1) = true:=decide_eq_true c4
     clear c4
     by_cases c6:(bt a0 x7_1) = a1
     ·rw [if_pos c6] at H
      have c6b0:((bt a0 x7_1) == a1) = true:=beq_iff_eq.mpr c6
      have c6b1:((bt a0 x7_1) != a1) = false:=bne_eq_false_iff_eq.mpr c6
      clear c6
      have c7b0:=eq_true (oD (by assumption):0 ≤ x7_1)
      by_cases c8:x7_1 ≤ (a0.size:Int)
      ·rw [if_pos c8] at H
       have c8b0:=eq_true c8
       have c8b1:=decide_eq_true c8
       clear c8
       obtain ⟨ji9,hji9⟩:∃ j_:Int,(wrap64 (x7_1 + 1)) = j_:=⟨_,rfl⟩
       replace H:(if 0 ≤ (ji9) then (if (ji9) ≤ (a0.size:Int) then (some (a0.extract 0 (x7_1:Int).toNat,a0.extract ((ji9):Int).toNat a0.size,true)) else (none)) else (none)) = some (r1,r2,r3):=by first|(rw [hji9] at H;exact H)|(simp only [hji9] at H ⊢;exact H)
       have hji9w:(IntKind.i64.wrap (x7_1 + 1)) = ji9:=(i64_w _).trans hji9
       by_cases c10:0 ≤ (ji9)
       ·rw [if_pos c10] at H
        have c10b0:=eq_true c10
        have c10b1:=decide_eq_true c10
        clear c10
        by_cases c11:(ji9) ≤ (a0.size:Int)
        ·rw [if_pos c11] at H
         have c11b0:=eq_true c11
         have c11b1:=decide_eq_true c11
         clear c11
         simp only [Option.some.injEq,Prod.mk.injEq] at H
         obtain ⟨rfl,rfl,rfl⟩:=H
         have p5:0 ≤ (x7_1:Int):=oD (by assumption)
         have q5:x7_1 < (a0.size:Int):=oD (by assumption)
         have hx5:=bt_at a0 x7_1
         replace p5:=eq_true p5
         replace q5:=eq_true q5
         go_wp2
         repeat (go_quiet (fail);try go_wp2)
         go_ret3
         exact ⟨by first|rfl|(simp only [i64_w,i32_w] <;> rfl)|(simp;done)|(simp only [← hji9] <;> (first|rfl|simp))|(simp [*];done),by repeat (first|exact Drawn0.refl _|apply Drawn0.step)⟩
        ·rw [if_neg c11] at H
         exact absurd H (by simp)
       ·rw [if_neg c10] at H
        exact absurd H (by simp)
      ·rw [if_neg c8] at H
       exact absurd H (by simp)
     ·rw [if_neg c6] at H
      have c6b0:((bt a0 x7_1) == a1) = false:=beq_eq_false_iff_ne.mpr c6
      have c6b1:((bt a0 x7_1) != a1) = true:=bne_iff_ne.mpr c6
      have H':=Am H
      clear H
      have p5:0 ≤ (x7_1:Int):=oD (by assumption)
      have q5:x7_1 < (a0.size:Int):=oD (by assumption)
      have hx5:=bt_at a0 x7_1
      replace p5:=eq_true p5
      replace q5:=eq_true q5
      go_wp2
      repeat (go_quiet (fail);try go_wp2)
      go_roundg k1
      case measure=>have:=HK1.out;omega
      case rel=>exact ⟨(wrap64 (x7_1 + 1)),(by first|rfl|(simp;done)|(simp only [i64_w,i32_w] <;> rfl)|(simp [*];done)|(simp [emp_bne,emp_beq];done)),H',⟨by have:=HK1.out;omega⟩,by repeat (first|exact Drawn0.refl _|apply Drawn0.step)⟩
    ·rw [if_neg c4] at H
     exact absurd H (by simp)
   ·rw [if_neg c3] at H
    have c3b0:decide (x7_1 < (a0.size:Int)) = false:=decide_eq_false c3
    clear c3
    simp only [Option.some.injEq,Prod.mk.injEq] at H
    obtain ⟨rfl,rfl,rfl⟩:=H
    go_wp2
    repeat (go_quiet (fail);try go_wp2)
    go_ret3
    exact ⟨by first|rfl|(simp;done)|(simp only [i64_w,i32_w] <;> rfl)|(simp [*];done)|(simp [emp_bne,emp_beq];done),by repeat (first|exact Drawn0.refl _|apply Drawn0.step)⟩

/-! ### spec_l6In: function 70 -/
def spec_l6In.f (a0:Int) (a1:Int) (a2:Int):Option (Bool):=if a0 ≥ a1 then (some (decide (a0 ≤ a2))) else (some false)
theorem spec_l6In.calls (a0:Int) (a1:Int) (a2:Int) (r:Bool) (w:World) (h:spec_l6In.f a0 a1 a2 = some r) :
  Calls Tryd.prog 70 #[.int .i64 a0, .int .i64 a1, .int .i64 a2] w fun e w'=>e = .returned (.bool r) ∧ Drawn0 w w':=by
 have H:(if a0 ≥ a1 then (some (decide (a0 ≤ a2))) else (some false)) = some r:=h
 clear h
 by_cases c4:a0 ≥ a1
 ·rw [if_pos c4] at H
  have c4b0:decide (a1 ≤ a0) = true:=decide_eq_true c4
  clear c4
  obtain rfl:=Option.some.inj H
  go_enter Tryd.func70,Tryd.ntmps70
  go_wp2
  go_ret
  exact ⟨by first|rfl|(simp;done)|(simp only [i64_w,i32_w] <;> rfl)|(simp [*];done)|(simp [emp_bne,emp_beq];done),by repeat (first|exact Drawn0.refl _|apply Drawn0.step)⟩
 ·rw [if_neg c4] at H
  have c4b0:decide (a1 ≤ a0) = false:=decide_eq_false c4
  clear c4
  obtain rfl:=Option.some.inj H
  go_enter Tryd.func70,Tryd.ntmps70
  go_wp2
  go_ret
  exact ⟨by first|rfl|(simp;done)|(simp only [i64_w,i32_w] <;> rfl)|(simp [*];done)|(simp [emp_bne,emp_beq];done),by repeat (first|exact Drawn0.refl _|apply Drawn0.step)⟩

/-! ### spec_l1House: function 42 -/
def spec_l1House.l0:Nat → ByteArray → Int → Option (Bool)
 | 0,_,_=>none
 | k + 1,x0,x3=>if x3 < (x0.size:Int) then (if 0 ≤ x3 then (if (bt x0 x3) < 97 then (some false) else (if (bt x0 x3) > 122 then (some false) else (spec_l1House.l0 k x0 (wrap64 (x3 + 1))))) else (none)) else ((spec_l6In.f (x0.size:Int) 1 5).bind fun t104=>(some t104))
def spec_l1House.f (k:Nat) (a0:ByteArray):Option (Bool):=spec_l1House.l0 k a0 0
theorem spec_l1House.mono_l:∀ k,(∀ y0 y1,LeO (spec_l1House.l0 k y0 y1) (spec_l1House.l0 (k + 1) y0 y1))
 | 0=>fun _ _ r h=>by simp [spec_l1House.l0] at h
 | k + 1=>by
  have ih0:=spec_l1House.mono_l k
  ·intro y0 y1
   unfold spec_l1House.l0
   repeat' first
   | (with_reducible apply ih0)
   | (with_reducible exact LeO.refl _)
   | (with_reducible exact LeO.none _)
   | (with_reducible refine LeO.ite ?_ ?_)
   | (with_reducible refine LeO.bind ?_ (fun _=>?_))




theorem spec_l1House.mono:∀ a0 k,LeO (spec_l1House.f k a0) (spec_l1House.f (k + 1) a0):=by
 intro a0 k
 have ih0:=spec_l1House.mono_l k
 unfold spec_l1House.f
 repeat' first
   | (with_reducible apply ih0)
   | (with_reducible exact LeO.refl _)
   | (with_reducible exact LeO.none _)
   | (with_reducible refine LeO.ite ?_ ?_)
   | (with_reducible refine LeO.bind ?_ (fun _=>?_))




theorem spec_l1House.calls (k:Nat) (a0:ByteArray) (r:Bool) (w:World) (h:spec_l1House.f k a0 = some r) :
  Calls Tryd.prog 42 #[.string a0] w fun e w'=>e = .returned (.bool r) ∧ Drawn0 w w':=by
 have H:(spec_l1House.l0 k a0 0) = some r:=h
 clear h
 have H':=Am H
 clear H
 go_enter Tryd.func42,Tryd.ntmps42
 go_wp2
 go_loopg [3] k (fun kq v3 w'=>∃ (x3_1:Int),v3 = .int .i64 x3_1 ∧ Aside0 (spec_l1House.l0 kq a0 x3_1 = some r) ∧ Aside0 (kq ≤ k) ∧ Drawn0 w w')
 case atStart=>exact ⟨(0),(by first|rfl|(simp;done)|(simp only [i64_w,i32_w] <;> rfl)|(simp [*];done)|(simp [emp_bne,emp_beq];done)),H',⟨Nat.le_refl _⟩,by repeat (first|exact Drawn0.refl _|apply Drawn0.step)⟩
 case round =>
  clear H'
  obtain ⟨x3_1,rfl,HA,HK1,⟨m1,rfl⟩⟩:=hrel
  cases gk with
  | zero=>exact absurd HA.out (by simp [spec_l1House.l0])
  | succ k1 =>
   have H:=HA.out
   clear HA
   simp only [spec_l1House.l0] at H
   by_cases c2:x3_1 < (a0.size:Int)
   ·rw [if_pos c2] at H
    have c2b0:decide (x3_1 < (a0.size:Int)) = true:=decide_eq_true c2
    clear c2
    by_cases c3:0 ≤ x3_1
    ·rw [if_pos c3] at H
     have c3b0:decide (0 ≤ x3_1) = true:=decide_eq_true c3
     clear c3
     by_cases c5:(bt a0 x3_1) < 97
     ·rw [if_pos c5] at H
      have c5b0:decide ((bt a0 x3_1) < 97) = true:=decide_eq_true c5
      clear c5
      obtain rfl:=Option.some.inj H
      have p4:0 ≤ (x3_1:Int):=oD (by assumption)
      have q4:x3_1 < (a0.size:Int):=oD (by assumption)
      have hx4:=bt_at a0 x3_1
      replace p4:=eq_true p4
      replace q4:=eq_true q4
      go_wp2
      go_ret
      exact ⟨by first|rfl|(simp;done)|(simp only [i64_w,i32_w] <;> rfl)|(simp [*];done)|(simp [emp_bne,emp_beq];done),by repeat (first|exact Drawn0.refl _|apply Drawn0.step)⟩
     ·rw [if_neg c5] at H
      have c5b0:decide ((bt a0 x3_1) < 97) = false:=decide_eq_false c5
      clear c5
      by_cases c7:(bt a0 x3_1) > 122
      ·rw [if_pos c7] at H
       have c7b0:decide (122 < (bt a0 x3_1)) = true:=decide_eq_true c7
       clear c7
       obtain rfl:=Option.some.inj H
       have p4:0 ≤ (x3_1:Int):=oD (by assumption)
       have q4:x3_1 < (a0.size:Int):=oD (by assumption)
       have hx4:=bt_at a0 x3_1
       replace p4:=eq_true p4
       replace q4:=eq_true q4
       have p6:0 ≤ (x3_1:Int):=oD (by assumption)
       have q6:x3_1 < (a0.size:Int):=oD (by assumption)
       have hx6:=bt_at a0 x3_1
       replace p6:=eq_true p6
       replace q6:=eq_true q6
       go_wp2
       go_ret
       exact ⟨by first|rfl|(simp;done)|(simp only [i64_w,i32_w] <;> rfl)|(simp [*];done)|(simp [emp_bne,emp_beq];done),by repeat (first|exact Drawn0.refl _|apply Drawn0.step)⟩
      ·rw [if_neg c7] at H
       have c7b0:decide (122 < (bt a0 x3_1)) = false:=decide_eq_false c7
       clear c7
       have H':=Am H
       clear H
       have p4:0 ≤ (x3_1:Int):=oD (by assumption)
       have q4:x3_1 < (a0.size:Int):=oD (by assumption)
       have hx4:=bt_at a0 x3_1
       replace p4:=eq_true p4
       replace q4:=eq_true q4
       have p6:0 ≤ (x3_1:Int):=oD (by assumption)
       have q6:x3_1 < (a0.size:Int):=oD (by assumption)
       have hx6:=bt_at a0 x3_1
       replace p6:=eq_true p6
       replace q6:=eq_true q6
       go_wp2
       go_roundg k1
       case measure=>have:=HK1.out;omega
       case rel=>exact ⟨(wrap64 (x3_1 + 1)),(by first|rfl|(simp;done)|(simp only [i64_w,i32_w] <;> rfl)|(simp [*];done)|(simp [emp_bne,emp_beq];done)),H',⟨by have:=HK1.out;omega⟩,by repeat (first|exact Drawn0.refl _|apply Drawn0.step)⟩
    ·rw [if_neg c3] at H
     exact absurd H (by simp)
   ·rw [if_neg c2] at H
    have c2b0:decide (x3_1 < (a0.size:Int)) = false:=decide_eq_false c2
    clear c2
    replace H:=bI H
    obtain ⟨t104,A80,H⟩:=H
    replace H:(some t104) = some r:=H
    have A8:=Am A80
    clear A80
    obtain rfl:=Option.some.inj H
    go_wp2_with (first|((with_reducible refine gate_callee (f:=70) rfl ?_);refine goesL_ (some 22) rfl rfl Tryd.func70 (by kernel_rfl) rfl #[.int .i64 (a0.size:Int), .int .i64 1, .int .i64 5] rfl (aE3 rfl rfl rfl) ?_;(with_reducible refine (spec_l6In.calls (a0.size:Int) 1 5 t104 _ A8.out).mono ?_);rintro e w' ⟨rfl,⟨nd,rfl⟩⟩;refine ⟨_,rfl,?_⟩))
    go_ret
    exact ⟨by first|rfl|(simp;done)|(simp only [i64_w,i32_w] <;> rfl)|(simp [*];done)|(simp [emp_bne,emp_beq];done),by repeat (first|exact Drawn0.refl _|apply Drawn0.step)⟩

/-! ### spec_l1Hex: function 77 -/
mutual
def spec_l1Hex.j0:Nat → Int → Bool → Option (Int)
 | 0,_,_=>none
 | k + 1,x0,x3=>if x3 = true then (some ((x0 - 48) % 256)) else (if x0 ≥ 97 then (spec_l1Hex.j1 k x0 (decide (x0 ≤ 102))) else (spec_l1Hex.j1 k x0 false))
def spec_l1Hex.j1:Nat → Int → Bool → Option (Int)
 | 0,_,_=>none
 | k + 1,x0,x13=>if x13 = true then (some (((x0 - 97) % 256) + 10)) else (if x0 ≥ 65 then (if x0 ≤ 70 then (some (((x0 - 65) % 256) + 10)) else (some (-1))) else (some (-1)))
end
def spec_l1Hex.f (k:Nat) (a0:Int):Option (Int):=if a0 ≥ 48 then (spec_l1Hex.j0 k a0 (decide (a0 ≤ 57))) else (spec_l1Hex.j0 k a0 false)
theorem spec_l1Hex.mono_l:∀ k,(∀ y0 y1,LeO (spec_l1Hex.j0 k y0 y1) (spec_l1Hex.j0 (k + 1) y0 y1)) ∧ (∀ y0 y1,LeO (spec_l1Hex.j1 k y0 y1) (spec_l1Hex.j1 (k + 1) y0 y1))
 | 0=>⟨fun _ _ r h=>by simp [spec_l1Hex.j0] at h,fun _ _ r h=>by simp [spec_l1Hex.j1] at h⟩
 | k + 1=>by
  obtain ⟨ih0,ih1⟩:=spec_l1Hex.mono_l k
  refine ⟨?_,?_⟩
  ·intro y0 y1
   unfold spec_l1Hex.j0
   repeat' first
   | (with_reducible apply ih0)
   | (with_reducible apply ih1)
   | (with_reducible exact LeO.refl _)
   | (with_reducible exact LeO.none _)
   | (with_reducible refine LeO.ite ?_ ?_)
   | (with_reducible refine LeO.bind ?_ (fun _=>?_))





  ·intro y0 y1
   unfold spec_l1Hex.j1
   repeat' first
   | (with_reducible apply ih0)
   | (with_reducible apply ih1)
   | (with_reducible exact LeO.refl _)
   | (with_reducible exact LeO.none _)
   | (with_reducible refine LeO.ite ?_ ?_)
   | (with_reducible refine LeO.bind ?_ (fun _=>?_))





theorem spec_l1Hex.mono:∀ a0 k,LeO (spec_l1Hex.f k a0) (spec_l1Hex.f (k + 1) a0):=by
 intro a0 k
 obtain ⟨ih0,ih1⟩:=spec_l1Hex.mono_l k
 unfold spec_l1Hex.f
 repeat' first
   | (with_reducible apply ih0)
   | (with_reducible apply ih1)
   | (with_reducible exact LeO.refl _)
   | (with_reducible exact LeO.none _)
   | (with_reducible refine LeO.ite ?_ ?_)
   | (with_reducible refine LeO.bind ?_ (fun _=>?_))





theorem spec_l1Hex.calls (k:Nat) (a0:Int) (r:Int) (w:World) (h:spec_l1Hex.f k a0 = some r) :
  Calls Tryd.prog 77 #[.int .u8 a0] w fun e w'=>e = .returned (.int .i64 r) ∧ Drawn0 w w':=by
 have H:(if a0 ≥ 48 then (spec_l1Hex.j0 k a0 (decide (a0 ≤ 57))) else (spec_l1Hex.j0 k a0 false)) = some r:=h
 clear h
 have HC2:=Am H
 clear H
 go_enter Tryd.func77,Tryd.ntmps77
 go_upto_region 1 with (fail)
 go_cut [3] (fun v3 wc=>∃ (kq:Nat) (x3_1:Bool),v3 = .bool x3_1 ∧ Aside0 (spec_l1Hex.j0 kq a0 x3_1 = some r) ∧ Aside0 (kq ≤ k) ∧ Drawn0 w wc)
 case first =>
  have H:=HC2.out
  clear HC2
  by_cases c3:a0 ≥ 48
  ·rw [if_pos c3] at H
   have c3b0:decide (48 ≤ a0) = true:=decide_eq_true c3
   clear c3
   (first|rw [c3b0]|(simp only [i64_w,i32_w];rw [c3b0])|skip)
   have H':=Am H
   clear H
   go_wp2
   go_meet
   case rel=>exact ⟨_,(decide (a0 ≤ 57)),(by first|rfl|(simp;done)|(simp only [i64_w,i32_w] <;> rfl)|(simp [*];done)|(simp [emp_bne,emp_beq];done)),H',⟨by first|omega|exact Nat.le_refl _⟩,by repeat (first|exact Drawn0.refl _|apply Drawn0.step)⟩
  ·rw [if_neg c3] at H
   have c3b0:decide (48 ≤ a0) = false:=decide_eq_false c3
   clear c3
   (first|rw [c3b0]|(simp only [i64_w,i32_w];rw [c3b0])|skip)
   have H':=Am H
   clear H
   go_wp2
   go_meet
   case rel=>exact ⟨_,(false),(by first|rfl|(simp;done)|(simp only [i64_w,i32_w] <;> rfl)|(simp [*];done)|(simp [emp_bne,emp_beq];done)),H',⟨by first|omega|exact Nat.le_refl _⟩,by repeat (first|exact Drawn0.refl _|apply Drawn0.step)⟩
 case rest =>
  clear HC2
  try clear p2
  try clear c3
  try clear c3b0
  obtain ⟨kq,x3_1,rfl,HA,HJ1,⟨mc1,rfl⟩⟩:=hcut
  cases kq with
  | zero=>exact absurd HA.out (by simp [spec_l1Hex.j0])
  | succ kj1 =>
   have H:=HA.out
   clear HA
   simp only [spec_l1Hex.j0] at H
   by_cases c4:x3_1 = true
   ·subst c4
    have H1:(some ((a0 - 48) % 256)) = some r:=by rw [if_pos rfl] at H;exact H
    clear H
    have H:=H1
    clear H1
    obtain rfl:=Option.some.inj H
    go_wp2
    go_ret
    exact ⟨by first|rfl|(simp;done)|(simp only [i64_w,i32_w] <;> rfl)|(simp [*];done)|(simp [emp_bne,emp_beq];done),by repeat (first|exact Drawn0.refl _|apply Drawn0.step)⟩
   ·replace c4:=Bool.eq_false_iff.mpr c4
    subst c4
    have H1:(if a0 ≥ 97 then (spec_l1Hex.j1 kj1 a0 (decide (a0 ≤ 102))) else (spec_l1Hex.j1 kj1 a0 false)) = some r:=by rw [if_neg (show ¬ (false = true) by decide)] at H;exact H
    clear H
    have H:=H1
    clear H1
    have HC5:=Am H
    clear H
    go_upto_region 3 with (fail)
    go_cut [13] (fun v13 wc=>∃ (kq:Nat) (x13_4:Bool),v13 = .bool x13_4 ∧ Aside0 (spec_l1Hex.j1 kq a0 x13_4 = some r) ∧ Aside0 (kq ≤ kj1) ∧ Drawn0 w wc)
    case first =>
     have H:=HC5.out
     clear HC5
     by_cases c6:a0 ≥ 97
     ·rw [if_pos c6] at H
      have c6b0:decide (97 ≤ a0) = true:=decide_eq_true c6
      clear c6
      (first|rw [c6b0]|(simp only [i64_w,i32_w];rw [c6b0])|skip)
      have H':=Am H
      clear H
      go_wp2
      go_meet
      case rel=>exact ⟨_,(decide (a0 ≤ 102)),(by first|rfl|(simp;done)|(simp only [i64_w,i32_w] <;> rfl)|(simp [*];done)|(simp [emp_bne,emp_beq];done)),H',⟨by have:=HJ1.out;first|omega|exact Nat.le_refl _⟩,by repeat (first|exact Drawn0.refl _|apply Drawn0.step)⟩
     ·rw [if_neg c6] at H
      have c6b0:decide (97 ≤ a0) = false:=decide_eq_false c6
      clear c6
      (first|rw [c6b0]|(simp only [i64_w,i32_w];rw [c6b0])|skip)
      have H':=Am H
      clear H
      go_wp2
      go_meet
      case rel=>exact ⟨_,(false),(by first|rfl|(simp;done)|(simp only [i64_w,i32_w] <;> rfl)|(simp [*];done)|(simp [emp_bne,emp_beq];done)),H',⟨by have:=HJ1.out;first|omega|exact Nat.le_refl _⟩,by repeat (first|exact Drawn0.refl _|apply Drawn0.step)⟩
    case rest =>
     clear HC5
     try clear c1
     try clear p2
     try clear c3
     try clear c3b0
     try clear c4
     try clear c6
     try clear c6b0
     try clear p2
     obtain ⟨kq,x13_4,rfl,HA,HJ4,⟨mc4,rfl⟩⟩:=hcut
     cases kq with
     | zero=>exact absurd HA.out (by simp [spec_l1Hex.j1])
     | succ kj4 =>
      have H:=HA.out
      clear HA
      simp only [spec_l1Hex.j1] at H
      by_cases c7:x13_4 = true
      ·subst c7
       have H1:(some (((a0 - 97) % 256) + 10)) = some r:=by rw [if_pos rfl] at H;exact H
       clear H
       have H:=H1
       clear H1
       obtain rfl:=Option.some.inj H
       go_wp2
       go_ret
       exact ⟨by first|rfl|(simp;done)|(simp only [i64_w,i32_w] <;> rfl)|(simp [*];done)|(simp [emp_bne,emp_beq];done),by repeat (first|exact Drawn0.refl _|apply Drawn0.step)⟩
      ·replace c7:=Bool.eq_false_iff.mpr c7
       subst c7
       have H1:(if a0 ≥ 65 then (if a0 ≤ 70 then (some (((a0 - 65) % 256) + 10)) else (some (-1))) else (some (-1))) = some r:=by rw [if_neg (show ¬ (false = true) by decide)] at H;exact H
       clear H
       have H:=H1
       clear H1
       by_cases c8:a0 ≥ 65
       ·rw [if_pos c8] at H
        have c8b0:decide (65 ≤ a0) = true:=decide_eq_true c8
        clear c8
        by_cases c9:a0 ≤ 70
        ·rw [if_pos c9] at H
         have c9b0:decide (a0 ≤ 70) = true:=decide_eq_true c9
         clear c9
         obtain rfl:=Option.some.inj H
         go_wp2
         go_ret
         exact ⟨by first|rfl|(simp;done)|(simp only [i64_w,i32_w] <;> rfl)|(simp [*];done)|(simp [emp_bne,emp_beq];done),by repeat (first|exact Drawn0.refl _|apply Drawn0.step)⟩
        ·rw [if_neg c9] at H
         have c9b0:decide (a0 ≤ 70) = false:=decide_eq_false c9
         clear c9
         obtain rfl:=Option.some.inj H
         go_wp2
         go_ret
         exact ⟨by first|rfl|(simp;done)|(simp only [i64_w,i32_w] <;> rfl)|(simp [*];done)|(simp [emp_bne,emp_beq];done),by repeat (first|exact Drawn0.refl _|apply Drawn0.step)⟩
       ·rw [if_neg c8] at H
        have c8b0:decide (65 ≤ a0) = false:=decide_eq_false c8
        clear c8
        obtain rfl:=Option.some.inj H
        go_wp2
        go_ret
        exact ⟨by first|rfl|(simp;done)|(simp only [i64_w,i32_w] <;> rfl)|(simp [*];done)|(simp [emp_bne,emp_beq];done),by repeat (first|exact Drawn0.refl _|apply Drawn0.step)⟩

/-! ### spec_l1Plain: function 78 -/
def spec_l1Plain.f (a0:Int):Option (Bool):=if a0 ≥ 97 then (if a0 ≤ 122 then (some true) else (if a0 ≥ 48 then (if a0 ≤ 57 then (some true) else (if a0 = 46 then (some true) else (some (a0 == 45)))) else (if a0 = 46 then (some true) else (some (a0 == 45))))) else (if a0 ≥ 48 then (if a0 ≤ 57 then (some true) else (if a0 = 46 then (some true) else (some (a0 == 45)))) else (if a0 = 46 then (some true) else (some (a0 == 45))))
theorem spec_l1Plain.calls (a0:Int) (r:Bool) (w:World) (h:spec_l1Plain.f a0 = some r) :
  Calls Tryd.prog 78 #[.int .u8 a0] w fun e w'=>e = .returned (.bool r) ∧ Drawn0 w w':=by
 have H:(if a0 ≥ 97 then (if a0 ≤ 122 then (some true) else (if a0 ≥ 48 then (if a0 ≤ 57 then (some true) else (if a0 = 46 then (some true) else (some (a0 == 45)))) else (if a0 = 46 then (some true) else (some (a0 == 45))))) else (if a0 ≥ 48 then (if a0 ≤ 57 then (some true) else (if a0 = 46 then (some true) else (some (a0 == 45)))) else (if a0 = 46 then (some true) else (some (a0 == 45))))) = some r:=h
 clear h
 by_cases c2:a0 ≥ 97
 ·rw [if_pos c2] at H
  have c2b0:decide (97 ≤ a0) = true:=decide_eq_true c2
  clear c2
  by_cases c3:a0 ≤ 122
  ·rw [if_pos c3] at H
   have c3b0:decide (a0 ≤ 122) = true:=decide_eq_true c3
   clear c3
   obtain rfl:=Option.some.inj H
   go_enter Tryd.func78,Tryd.ntmps78
   go_wp2
   go_ret
   exact ⟨by first|rfl|(simp;done)|(simp only [i64_w,i32_w] <;> rfl)|(simp [*];done)|(simp [emp_bne,emp_beq];done),by repeat (first|exact Drawn0.refl _|apply Drawn0.step)⟩
  ·rw [if_neg c3] at H
   have c3b0:decide (a0 ≤ 122) = false:=decide_eq_false c3
   clear c3
   by_cases c4:a0 ≥ 48
   ·rw [if_pos c4] at H
    have c4b0:decide (48 ≤ a0) = true:=decide_eq_true c4
    clear c4
    by_cases c5:a0 ≤ 57
    ·rw [if_pos c5] at H
     have c5b0:decide (a0 ≤ 57) = true:=decide_eq_true c5
     clear c5
     obtain rfl:=Option.some.inj H
     go_enter Tryd.func78,Tryd.ntmps78
     go_wp2
     go_ret
     exact ⟨by first|rfl|(simp;done)|(simp only [i64_w,i32_w] <;> rfl)|(simp [*];done)|(simp [emp_bne,emp_beq];done),by repeat (first|exact Drawn0.refl _|apply Drawn0.step)⟩
    ·rw [if_neg c5] at H
     have c5b0:decide (a0 ≤ 57) = false:=decide_eq_false c5
     clear c5
     by_cases c6:a0 = 46
     ·rw [if_pos c6] at H
      have c6b0:(a0 == 46) = true:=beq_iff_eq.mpr c6
      have c6b1:(a0 != 46) = false:=bne_eq_false_iff_eq.mpr c6
      clear c6
      obtain rfl:=Option.some.inj H
      go_enter Tryd.func78,Tryd.ntmps78
      go_wp2
      go_ret
      exact ⟨by first|rfl|(simp;done)|(simp only [i64_w,i32_w] <;> rfl)|(simp [*];done)|(simp [emp_bne,emp_beq];done),by repeat (first|exact Drawn0.refl _|apply Drawn0.step)⟩
     ·rw [if_neg c6] at H
      have c6b0:(a0 == 46) = false:=beq_eq_false_iff_ne.mpr c6
      have c6b1:(a0 != 46) = true:=bne_iff_ne.mpr c6
      obtain rfl:=Option.some.inj H
      go_enter Tryd.func78,Tryd.ntmps78
      go_wp2
      go_ret
      exact ⟨by first|rfl|(simp;done)|(simp only [i64_w,i32_w] <;> rfl)|(simp [*];done)|(simp [emp_bne,emp_beq];done),by repeat (first|exact Drawn0.refl _|apply Drawn0.step)⟩
   ·rw [if_neg c4] at H
    have c4b0:decide (48 ≤ a0) = false:=decide_eq_false c4
    clear c4
    by_cases c7:a0 = 46
    ·rw [if_pos c7] at H
     have c7b0:(a0 == 46) = true:=beq_iff_eq.mpr c7
     have c7b1:(a0 != 46) = false:=bne_eq_false_iff_eq.mpr c7
     clear c7
     obtain rfl:=Option.some.inj H
     go_enter Tryd.func78,Tryd.ntmps78
     go_wp2
     go_ret
     exact ⟨by first|rfl|(simp;done)|(simp only [i64_w,i32_w] <;> rfl)|(simp [*];done)|(simp [emp_bne,emp_beq];done),by repeat (first|exact Drawn0.refl _|apply Drawn0.step)⟩
    ·rw [if_neg c7] at H
     have c7b0:(a0 == 46) = false:=beq_eq_false_iff_ne.mpr c7
     have c7b1:(a0 != 46) = true:=bne_iff_ne.mpr c7
     obtain rfl:=Option.some.inj H
     go_enter Tryd.func78,Tryd.ntmps78
     go_wp2
     go_ret
     exact ⟨by first|rfl|(simp;done)|(simp only [i64_w,i32_w] <;> rfl)|(simp [*];done)|(simp [emp_bne,emp_beq];done),by repeat (first|exact Drawn0.refl _|apply Drawn0.step)⟩
 ·rw [if_neg c2] at H
  have c2b0:decide (97 ≤ a0) = false:=decide_eq_false c2
  clear c2
  by_cases c8:a0 ≥ 48
  ·rw [if_pos c8] at H
   have c8b0:decide (48 ≤ a0) = true:=decide_eq_true c8
   clear c8
   by_cases c9:a0 ≤ 57
   ·rw [if_pos c9] at H
    have c9b0:decide (a0 ≤ 57) = true:=decide_eq_true c9
    clear c9
    obtain rfl:=Option.some.inj H
    go_enter Tryd.func78,Tryd.ntmps78
    go_wp2
    go_ret
    exact ⟨by first|rfl|(simp;done)|(simp only [i64_w,i32_w] <;> rfl)|(simp [*];done)|(simp [emp_bne,emp_beq];done),by repeat (first|exact Drawn0.refl _|apply Drawn0.step)⟩
   ·rw [if_neg c9] at H
    have c9b0:decide (a0 ≤ 57) = false:=decide_eq_false c9
    clear c9
    by_cases c10:a0 = 46
    ·rw [if_pos c10] at H
     have c10b0:(a0 == 46) = true:=beq_iff_eq.mpr c10
     have c10b1:(a0 != 46) = false:=bne_eq_false_iff_eq.mpr c10
     clear c10
     obtain rfl:=Option.some.inj H
     go_enter Tryd.func78,Tryd.ntmps78
     go_wp2
     go_ret
     exact ⟨by first|rfl|(simp;done)|(simp only [i64_w,i32_w] <;> rfl)|(simp [*];done)|(simp [emp_bne,emp_beq];done),by repeat (first|exact Drawn0.refl _|apply Drawn0.step)⟩
    ·rw [if_neg c10] at H
     have c10b0:(a0 == 46) = false:=beq_eq_false_iff_ne.mpr c10
     have c10b1:(a0 != 46) = true:=bne_iff_ne.mpr c10
     obtain rfl:=Option.some.inj H
     go_enter Tryd.func78,Tryd.ntmps78
     go_wp2
     go_ret
     exact ⟨by first|rfl|(simp;done)|(simp only [i64_w,i32_w] <;> rfl)|(simp [*];done)|(simp [emp_bne,emp_beq];done),by repeat (first|exact Drawn0.refl _|apply Drawn0.step)⟩
  ·rw [if_neg c8] at H
   have c8b0:decide (48 ≤ a0) = false:=decide_eq_false c8
   clear c8
   by_cases c11:a0 = 46
   ·rw [if_pos c11] at H
    have c11b0:(a0 == 46) = true:=beq_iff_eq.mpr c11
    have c11b1:(a0 != 46) = false:=bne_eq_false_iff_eq.mpr c11
    clear c11
    obtain rfl:=Option.some.inj H
    go_enter Tryd.func78,Tryd.ntmps78
    go_wp2
    go_ret
    exact ⟨by first|rfl|(simp;done)|(simp only [i64_w,i32_w] <;> rfl)|(simp [*];done)|(simp [emp_bne,emp_beq];done),by repeat (first|exact Drawn0.refl _|apply Drawn0.step)⟩
   ·rw [if_neg c11] at H
    have c11b0:(a0 == 46) = false:=beq_eq_false_iff_ne.mpr c11
    have c11b1:(a0 != 46) = true:=bne_iff_ne.mpr c11
    obtain rfl:=Option.some.inj H
    go_enter Tryd.func78,Tryd.ntmps78
    go_wp2
    go_ret
    exact ⟨by first|rfl|(simp;done)|(simp only [i64_w,i32_w] <;> rfl)|(simp [*];done)|(simp [emp_bne,emp_beq];done),by repeat (first|exact Drawn0.refl _|apply Drawn0.step)⟩

/-! ### spec_l1Sign: function 79 -/
def spec_l1Sign.f (a0:Int):Option (ByteArray):=if 0 ≤ (wrap64 (Int.tdiv a0 16)) then (if (wrap64 (Int.tdiv a0 16)) ≤ (wrap64 ((wrap64 (Int.tdiv a0 16)) + 1)) then (if (wrap64 ((wrap64 (Int.tdiv a0 16)) + 1)) ≤ 16 then (if 1 + ((⟨#[48,49,50,51,52,53,54,55,56,57,65,66,67,68,69,70]⟩:ByteArray).extract ((wrap64 (Int.tdiv a0 16)):Int).toNat ((wrap64 ((wrap64 (Int.tdiv a0 16)) + 1)):Int).toNat).size ≤ 9223372036854775807 then (if 0 ≤ (Int.tmod a0 16) then (if (Int.tmod a0 16) ≤ (wrap64 ((Int.tmod a0 16) + 1)) then (if (wrap64 ((Int.tmod a0 16) + 1)) ≤ 16 then (if ((⟨#[37]⟩:ByteArray) ++ ((⟨#[48,49,50,51,52,53,54,55,56,57,65,66,67,68,69,70]⟩:ByteArray).extract ((wrap64 (Int.tdiv a0 16)):Int).toNat ((wrap64 ((wrap64 (Int.tdiv a0 16)) + 1)):Int).toNat)).size + ((⟨#[48,49,50,51,52,53,54,55,56,57,65,66,67,68,69,70]⟩:ByteArray).extract ((Int.tmod a0 16):Int).toNat ((wrap64 ((Int.tmod a0 16) + 1)):Int).toNat).size ≤ 9223372036854775807 then (some (((⟨#[37]⟩:ByteArray) ++ ((⟨#[48,49,50,51,52,53,54,55,56,57,65,66,67,68,69,70]⟩:ByteArray).extract ((wrap64 (Int.tdiv a0 16)):Int).toNat ((wrap64 ((wrap64 (Int.tdiv a0 16)) + 1)):Int).toNat)) ++ ((⟨#[48,49,50,51,52,53,54,55,56,57,65,66,67,68,69,70]⟩:ByteArray).extract ((Int.tmod a0 16):Int).toNat ((wrap64 ((Int.tmod a0 16) + 1)):Int).toNat))) else (none)) else (none)) else (none)) else (none)) else (none)) else (none)) else (none)) else (none)
theorem spec_l1Sign.calls (a0:Int) (r:ByteArray) (w:World) (h:spec_l1Sign.f a0 = some r) :
  Calls Tryd.prog 79 #[.int .i64 a0] w fun e w'=>e = .returned (.string r) ∧ Drawn0 w w':=by
 have H:(if 0 ≤ (wrap64 (Int.tdiv a0 16)) then (if (wrap64 (Int.tdiv a0 16)) ≤ (wrap64 ((wrap64 (Int.tdiv a0 16)) + 1)) then (if (wrap64 ((wrap64 (Int.tdiv a0 16)) + 1)) ≤ 16 then (if 1 + ((⟨#[48,49,50,51,52,53,54,55,56,57,65,66,67,68,69,70]⟩:ByteArray).extract ((wrap64 (Int.tdiv a0 16)):Int).toNat ((wrap64 ((wrap64 (Int.tdiv a0 16)) + 1)):Int).toNat).size ≤ 9223372036854775807 then (if 0 ≤ (Int.tmod a0 16) then (if (Int.tmod a0 16) ≤ (wrap64 ((Int.tmod a0 16) + 1)) then (if (wrap64 ((Int.tmod a0 16) + 1)) ≤ 16 then (if ((⟨#[37]⟩:ByteArray) ++ ((⟨#[48,49,50,51,52,53,54,55,56,57,65,66,67,68,69,70]⟩:ByteArray).extract ((wrap64 (Int.tdiv a0 16)):Int).toNat ((wrap64 ((wrap64 (Int.tdiv a0 16)) + 1)):Int).toNat)).size + ((⟨#[48,49,50,51,52,53,54,55,56,57,65,66,67,68,69,70]⟩:ByteArray).extract ((Int.tmod a0 16):Int).toNat ((wrap64 ((Int.tmod a0 16) + 1)):Int).toNat).size ≤ 9223372036854775807 then (some (((⟨#[37]⟩:ByteArray) ++ ((⟨#[48,49,50,51,52,53,54,55,56,57,65,66,67,68,69,70]⟩:ByteArray).extract ((wrap64 (Int.tdiv a0 16)):Int).toNat ((wrap64 ((wrap64 (Int.tdiv a0 16)) + 1)):Int).toNat)) ++ ((⟨#[48,49,50,51,52,53,54,55,56,57,65,66,67,68,69,70]⟩:ByteArray).extract ((Int.tmod a0 16):Int).toNat ((wrap64 ((Int.tmod a0 16) + 1)):Int).toNat))) else (none)) else (none)) else (none)) else (none)) else (none)) else (none)) else (none)) else (none)) = some r:=h
 clear h
 obtain ⟨ji2,hji2⟩:∃ j_:Int,(wrap64 (Int.tdiv a0 16)) = j_:=⟨_,rfl⟩
 replace H:(if 0 ≤ (ji2) then (if (ji2) ≤ (wrap64 ((ji2) + 1)) then (if (wrap64 ((ji2) + 1)) ≤ 16 then (if 1 + ((⟨#[48,49,50,51,52,53,54,55,56,57,65,66,67,68,69,70]⟩:ByteArray).extract ((ji2):Int).toNat ((wrap64 ((ji2) + 1)):Int).toNat).size ≤ 9223372036854775807 then (if 0 ≤ (Int.tmod a0 16) then (if (Int.tmod a0 16) ≤ (wrap64 ((Int.tmod a0 16) + 1)) then (if (wrap64 ((Int.tmod a0 16) + 1)) ≤ 16 then (if ((⟨#[37]⟩:ByteArray) ++ ((⟨#[48,49,50,51,52,53,54,55,56,57,65,66,67,68,69,70]⟩:ByteArray).extract ((ji2):Int).toNat ((wrap64 ((ji2) + 1)):Int).toNat)).size + ((⟨#[48,49,50,51,52,53,54,55,56,57,65,66,67,68,69,70]⟩:ByteArray).extract ((Int.tmod a0 16):Int).toNat ((wrap64 ((Int.tmod a0 16) + 1)):Int).toNat).size ≤ 9223372036854775807 then (some (((⟨#[37]⟩:ByteArray) ++ ((⟨#[48,49,50,51,52,53,54,55,56,57,65,66,67,68,69,70]⟩:ByteArray).extract ((ji2):Int).toNat ((wrap64 ((ji2) + 1)):Int).toNat)) ++ ((⟨#[48,49,50,51,52,53,54,55,56,57,65,66,67,68,69,70]⟩:ByteArray).extract ((Int.tmod a0 16):Int).toNat ((wrap64 ((Int.tmod a0 16) + 1)):Int).toNat))) else (none)) else (none)) else (none)) else (none)) else (none)) else (none)) else (none)) else (none)) = some r:=by first|(rw [hji2] at H;exact H)|(simp only [hji2] at H ⊢;exact H)
 have hji2w:(IntKind.i64.wrap (Int.tdiv a0 16)) = ji2:=(i64_w _).trans hji2
 by_cases c3:0 ≤ (ji2)
 ·rw [if_pos c3] at H
  have c3b0:=eq_true c3
  have c3b1:=decide_eq_true c3
  clear c3
  by_cases c4:(ji2) ≤ (wrap64 ((ji2) + 1))
  ·rw [if_pos c4] at H
   have c4b0:=eq_true c4
   have c4b1:=decide_eq_true c4
   by_cases c5:(wrap64 ((ji2) + 1)) ≤ 16
   ·rw [if_pos c5] at H
    have c5b0:=eq_true c5
    have c5b1:=decide_eq_true c5
    by_cases c6:1 + ((⟨#[48,49,50,51,52,53,54,55,56,57,65,66,67,68,69,70]⟩:ByteArray).extract ((ji2):Int).toNat ((wrap64 ((ji2) + 1)):Int).toNat).size ≤ 9223372036854775807
    ·rw [if_pos c6] at H
     have c6b0:=eq_true c6
     have c6b1:=decide_eq_true c6
     try have c6b2:(9223372036854775807 < 1 + ((⟨#[48,49,50,51,52,53,54,55,56,57,65,66,67,68,69,70]⟩:ByteArray).extract ((ji2):Int).toNat ((wrap64 ((ji2) + 1)):Int).toNat).size) = False:=eq_false (Nat.not_lt.2 c6)
     obtain ⟨ji7,hji7⟩:∃ j_:Int,(Int.tmod a0 16) = j_:=⟨_,rfl⟩
     replace H:(if 0 ≤ (ji7) then (if (ji7) ≤ (wrap64 ((ji7) + 1)) then (if (wrap64 ((ji7) + 1)) ≤ 16 then (if ((⟨#[37]⟩:ByteArray) ++ ((⟨#[48,49,50,51,52,53,54,55,56,57,65,66,67,68,69,70]⟩:ByteArray).extract ((ji2):Int).toNat ((wrap64 ((ji2) + 1)):Int).toNat)).size + ((⟨#[48,49,50,51,52,53,54,55,56,57,65,66,67,68,69,70]⟩:ByteArray).extract ((ji7):Int).toNat ((wrap64 ((ji7) + 1)):Int).toNat).size ≤ 9223372036854775807 then (some (((⟨#[37]⟩:ByteArray) ++ ((⟨#[48,49,50,51,52,53,54,55,56,57,65,66,67,68,69,70]⟩:ByteArray).extract ((ji2):Int).toNat ((wrap64 ((ji2) + 1)):Int).toNat)) ++ ((⟨#[48,49,50,51,52,53,54,55,56,57,65,66,67,68,69,70]⟩:ByteArray).extract ((ji7):Int).toNat ((wrap64 ((ji7) + 1)):Int).toNat))) else (none)) else (none)) else (none)) else (none)) = some r:=by first|(rw [hji7] at H;exact H)|(simp only [hji7] at H ⊢;exact H)
     by_cases c8:0 ≤ (ji7)
     ·rw [if_pos c8] at H
      have c8b0:=eq_true c8
      have c8b1:=decide_eq_true c8
      clear c8
      by_cases c9:(ji7) ≤ (wrap64 ((ji7) + 1))
      ·rw [if_pos c9] at H
       have c9b0:=eq_true c9
       have c9b1:=decide_eq_true c9
       by_cases c10:(wrap64 ((ji7) + 1)) ≤ 16
       ·rw [if_pos c10] at H
        have c10b0:=eq_true c10
        have c10b1:=decide_eq_true c10
        by_cases c11:((⟨#[37]⟩:ByteArray) ++ ((⟨#[48,49,50,51,52,53,54,55,56,57,65,66,67,68,69,70]⟩:ByteArray).extract ((ji2):Int).toNat ((wrap64 ((ji2) + 1)):Int).toNat)).size + ((⟨#[48,49,50,51,52,53,54,55,56,57,65,66,67,68,69,70]⟩:ByteArray).extract ((ji7):Int).toNat ((wrap64 ((ji7) + 1)):Int).toNat).size ≤ 9223372036854775807
        ·rw [if_pos c11] at H
         have c11b0:=eq_true c11
         have c11b1:=decide_eq_true c11
         try have c11b2:(9223372036854775807 < ((⟨#[37]⟩:ByteArray) ++ ((⟨#[48,49,50,51,52,53,54,55,56,57,65,66,67,68,69,70]⟩:ByteArray).extract ((ji2):Int).toNat ((wrap64 ((ji2) + 1)):Int).toNat)).size + ((⟨#[48,49,50,51,52,53,54,55,56,57,65,66,67,68,69,70]⟩:ByteArray).extract ((ji7):Int).toNat ((wrap64 ((ji7) + 1)):Int).toNat).size) = False:=eq_false (Nat.not_lt.2 c11)
         obtain rfl:=Option.some.inj H
         go_enter Tryd.func79,Tryd.ntmps79
         go_wp2
         repeat (go_quiet (fail);try go_wp2)
         go_ret
         exact ⟨by first|rfl|(simp only [i64_w,i32_w] <;> rfl)|(simp;done)|(simp only [← hji2,← hji7] <;> (first|rfl|simp))|(simp [*];done),by repeat (first|exact Drawn0.refl _|apply Drawn0.step)⟩
        ·rw [if_neg c11] at H
         exact absurd H (by simp)
       ·rw [if_neg c10] at H
        exact absurd H (by simp)
      ·rw [if_neg c9] at H
       exact absurd H (by simp)
     ·rw [if_neg c8] at H
      exact absurd H (by simp)
    ·rw [if_neg c6] at H
     exact absurd H (by simp)
   ·rw [if_neg c5] at H
    exact absurd H (by simp)
  ·rw [if_neg c4] at H
   exact absurd H (by simp)
 ·rw [if_neg c3] at H
  exact absurd H (by simp)

/-! ### spec_EscNorm: function 60 -/
mutual
def spec_EscNorm.l0:Nat → ByteArray → ByteArray → Int → Option (ByteArray × Bool)
 | 0,_,_,_=>none
 | k + 1,x0,x4,x5=>if x5 < (x0.size:Int) then (if 0 ≤ x5 then (if (bt x0 x5) = 37 then (if (wrap64 (x5 + 2)) ≥ (x0.size:Int) then (spec_EscNorm.j1 k x0 x4 x5 true) else (if 0 ≤ (wrap64 (x5 + 1)) then (if (wrap64 (x5 + 1)) < (x0.size:Int) then ((spec_l1Hex.f k (bt x0 (wrap64 (x5 + 1)))).bind fun t105=>(if t105 < 0 then (spec_EscNorm.j1 k x0 x4 x5 true) else (if 0 ≤ (wrap64 (x5 + 2)) then (if (wrap64 (x5 + 2)) < (x0.size:Int) then ((spec_l1Hex.f k (bt x0 (wrap64 (x5 + 2)))).bind fun t106=>(spec_EscNorm.j1 k x0 x4 x5 (decide (t106 < 0)))) else (none)) else (none)))) else (none)) else (none))) else (spec_EscNorm.j2 k x0 x4 x5 (wrap64 (bt x0 x5)))) else (none)) else (some (x4,true))
def spec_EscNorm.j2:Nat → ByteArray → ByteArray → Int → Int → Option (ByteArray × Bool)
 | 0,_,_,_,_=>none
 | k + 1,x0,x4,x5,x6=>(spec_l1Plain.f ((x6) % 256)).bind fun t109=>(if t109 = true then ((some (([(x6) % 256]:List Int):List Int)).bind fun y110=>(if x4.size + (strOfNums y110).size ≤ 9223372036854775807 then (spec_EscNorm.l0 k x0 (x4 ++ (strOfNums y110)) (wrap64 (x5 + 1))) else (none))) else ((spec_l1Sign.f x6).bind fun t113=>(if x4.size + t113.size ≤ 9223372036854775807 then (spec_EscNorm.l0 k x0 (x4 ++ t113) (wrap64 (x5 + 1))) else (none))))
def spec_EscNorm.j1:Nat → ByteArray → ByteArray → Int → Bool → Option (ByteArray × Bool)
 | 0,_,_,_,_=>none
 | k + 1,x0,x4,x5,x44=>if x44 = true then (some ((⟨#[]⟩:ByteArray),false)) else (if 0 ≤ (wrap64 (x5 + 1)) then (if (wrap64 (x5 + 1)) < (x0.size:Int) then ((spec_l1Hex.f k (bt x0 (wrap64 (x5 + 1)))).bind fun t107=>(if 0 ≤ (wrap64 (x5 + 2)) then (if (wrap64 (x5 + 2)) < (x0.size:Int) then ((spec_l1Hex.f k (bt x0 (wrap64 (x5 + 2)))).bind fun t108=>(spec_EscNorm.j2 k x0 x4 (wrap64 (x5 + 2)) (wrap64 ((wrap64 (t107 * 16)) + t108)))) else (none)) else (none))) else (none)) else (none))
end
def spec_EscNorm.f (k:Nat) (a0:ByteArray):Option (ByteArray × Bool):=if (a0.size:Int) > 60 then (some ((⟨#[]⟩:ByteArray),false)) else (spec_EscNorm.l0 k a0 (⟨#[]⟩:ByteArray) 0)
theorem spec_EscNorm.mono_l:∀ k,(∀ y0 y1 y2,LeO (spec_EscNorm.l0 k y0 y1 y2) (spec_EscNorm.l0 (k + 1) y0 y1 y2)) ∧ (∀ y0 y1 y2 y3,LeO (spec_EscNorm.j2 k y0 y1 y2 y3) (spec_EscNorm.j2 (k + 1) y0 y1 y2 y3)) ∧ (∀ y0 y1 y2 y3,LeO (spec_EscNorm.j1 k y0 y1 y2 y3) (spec_EscNorm.j1 (k + 1) y0 y1 y2 y3))
 | 0=>⟨fun _ _ _ r h=>by simp [spec_EscNorm.l0] at h,fun _ _ _ _ r h=>by simp [spec_EscNorm.j2] at h,fun _ _ _ _ r h=>by simp [spec_EscNorm.j1] at h⟩
 | k + 1=>by
  obtain ⟨ih0,ih1,ih2⟩:=spec_EscNorm.mono_l k
  refine ⟨?_,?_,?_⟩
  ·intro y0 y1 y2
   unfold spec_EscNorm.l0
   repeat' first
   | (with_reducible apply ih0)
   | (with_reducible apply ih1)
   | (with_reducible apply ih2)
   | (with_reducible apply spec_l1Hex.mono)
   | (with_reducible exact LeO.refl _)
   | (with_reducible exact LeO.none _)
   | (with_reducible refine LeO.ite ?_ ?_)
   | (with_reducible refine LeO.bind ?_ (fun _=>?_))







  ·intro y0 y1 y2 y3
   unfold spec_EscNorm.j2
   repeat' first
   | (with_reducible apply ih0)
   | (with_reducible apply ih1)
   | (with_reducible apply ih2)
   | (with_reducible apply spec_l1Hex.mono)
   | (with_reducible exact LeO.refl _)
   | (with_reducible exact LeO.none _)
   | (with_reducible refine LeO.ite ?_ ?_)
   | (with_reducible refine LeO.bind ?_ (fun _=>?_))







  ·intro y0 y1 y2 y3
   unfold spec_EscNorm.j1
   repeat' first
   | (with_reducible apply ih0)
   | (with_reducible apply ih1)
   | (with_reducible apply ih2)
   | (with_reducible apply spec_l1Hex.mono)
   | (with_reducible exact LeO.refl _)
   | (with_reducible exact LeO.none _)
   | (with_reducible refine LeO.ite ?_ ?_)
   | (with_reducible refine LeO.bind ?_ (fun _=>?_))







theorem spec_EscNorm.mono:∀ a0 k,LeO (spec_EscNorm.f k a0) (spec_EscNorm.f (k + 1) a0):=by
 intro a0 k
 obtain ⟨ih0,ih1,ih2⟩:=spec_EscNorm.mono_l k
 unfold spec_EscNorm.f
 repeat' first
   | (with_reducible apply ih0)
   | (with_reducible apply ih1)
   | (with_reducible apply ih2)
   | (with_reducible apply spec_l1Hex.mono)
   | (with_reducible exact LeO.refl _)
   | (with_reducible exact LeO.none _)
   | (with_reducible refine LeO.ite ?_ ?_)
   | (with_reducible refine LeO.bind ?_ (fun _=>?_))







theorem spec_EscNorm.calls (k:Nat) (a0:ByteArray) (r1:ByteArray) (r2:Bool) (w:World) (h:spec_EscNorm.f k a0 = some (r1,r2)) :
  Calls Tryd.prog 60 #[.string a0] w fun e w'=>e = .returned (.tuple #[.string r1, .bool r2]) ∧ Below w.heap.size w w':=by
 have HB:=Am (Below.refl w.heap.size w)
 have H:(if (a0.size:Int) > 60 then (some ((⟨#[]⟩:ByteArray),false)) else (spec_EscNorm.l0 k a0 (⟨#[]⟩:ByteArray) 0)) = some (r1,r2):=h
 clear h
 by_cases c2:(a0.size:Int) > 60
 ·rw [if_pos c2] at H
  have c2b0:decide (60 < (a0.size:Int)) = true:=decide_eq_true c2
  have c2b1:decide (60 < a0.size) = true:=decide_eq_true (by omega)
  clear c2
  simp only [Option.some.injEq,Prod.mk.injEq] at H
  obtain ⟨rfl,rfl⟩:=H
  go_enter Tryd.func60,Tryd.ntmps60
  go_wp2
  repeat (go_quiet (fail);try go_wp2)
  go_ret2
  exact ⟨by first|rfl|(simp <;> rfl)|(simp [*] <;> rfl),by repeat (first|(with_reducible first|exact HB.out|apply bA|apply bN|apply bD)|exact HB.out)⟩
 ·rw [if_neg c2] at H
  have c2b0:decide (60 < (a0.size:Int)) = false:=decide_eq_false c2
  have c2b1:decide (60 < a0.size) = false:=decide_eq_false (by omega)
  clear c2
  have H':=Am H
  clear H
  go_enter Tryd.func60,Tryd.ntmps60
  go_wp2
  repeat (go_quiet (fail);try go_wp2)
  go_loopg [4,5] k (fun kq v4 v5 w'=>∃ (x4_1:ByteArray) (x5_1:Int),v4 = .string x4_1 ∧ v5 = .int .i64 x5_1 ∧ Aside0 (spec_EscNorm.l0 kq a0 x4_1 x5_1 = some (r1,r2)) ∧ Aside0 (kq ≤ k) ∧ Aside0 (Below w.heap.size w w'))
  case atStart=>exact ⟨((⟨#[]⟩:ByteArray)),(0),(by first|rfl|(simp;done)|(simp only [i64_w,i32_w] <;> rfl)|(simp [*];done)|(simp [emp_bne,emp_beq];done)),(by first|rfl|(simp;done)|(simp only [i64_w,i32_w] <;> rfl)|(simp [*];done)|(simp [emp_bne,emp_beq];done)),H',⟨Nat.le_refl _⟩,⟨by repeat (first|(with_reducible first|exact HB.out|apply bA|apply bN|apply bD)|exact HB.out)⟩⟩
  case round =>
   clear H'
   try clear c2
   try clear c2b0
   try clear c2b1
   try clear p2
   obtain ⟨x4_1,x5_1,rfl,rfl,HA,HK1,HB⟩:=hrel
   cases gk with
   | zero=>exact absurd HA.out (by simp [spec_EscNorm.l0])
   | succ k1 =>
    have H:=HA.out
    clear HA
    simp only [spec_EscNorm.l0] at H
    by_cases c3:x5_1 < (a0.size:Int)
    ·rw [if_pos c3] at H
     have c3b0:decide (x5_1 < (a0.size:Int)) = true:=decide_eq_true c3
     clear c3
     by_cases c4:0 ≤ x5_1
     ·rw [if_pos c4] at H
      have c4b0:decide (0 ≤ x5_1) = true:=decide_eq_true c4
      clear c4
      have HC7:=Am H
      clear H
      have p5:0 ≤ (x5_1:Int):=oD (by assumption)
      have q5:x5_1 < (a0.size:Int):=oD (by assumption)
      have hx5:=bt_at a0 x5_1
      replace p5:=eq_true p5
      replace q5:=eq_true q5
      have p6:0 ≤ (x5_1:Int):=oD (by assumption)
      have q6:x5_1 < (a0.size:Int):=oD (by assumption)
      have hx6:=bt_at a0 x5_1
      replace p6:=eq_true p6
      replace q6:=eq_true q6
      go_upto_if 23 with (fail)
      repeat (go_quiet (fail);go_upto_if 23 with (fail))
      go_cut [5,6] (fun v5 v6 wc=>∃ (kq:Nat) (x5_6:Int) (x6_6:Int),v5 = .int .i64 x5_6 ∧ v6 = .int .i64 x6_6 ∧ Aside0 (spec_EscNorm.j2 kq a0 x4_1 x5_6 x6_6 = some (r1,r2)) ∧ Aside0 (kq ≤ k1) ∧ Aside0 (Below w.heap.size w wc))
      case first =>
       have H:=HC7.out
       clear HC7
       by_cases c8:(bt a0 x5_1) = 37
       ·rw [if_pos c8] at H
        have c8b0:((bt a0 x5_1) == 37) = true:=beq_iff_eq.mpr c8
        have c8b1:((bt a0 x5_1) != 37) = false:=bne_eq_false_iff_eq.mpr c8
        clear c8
        (first|rw [c8b0]|(simp only [i64_w,i32_w];rw [c8b0])|skip)
        have HC9:=Am H
        clear H
        go_upto_region 9 with (fail)
        repeat (go_quiet (fail);go_upto_region 9 with (fail))
        go_cut [44] (fun v44 wc=>∃ (kq:Nat) (x44_8:Bool),v44 = .bool x44_8 ∧ Aside0 (spec_EscNorm.j1 kq a0 x4_1 x5_1 x44_8 = some (r1,r2)) ∧ Aside0 (kq ≤ k1) ∧ Aside0 (Below w.heap.size w wc))
        case first =>
         have H:=HC9.out
         clear HC9
         by_cases c10:(wrap64 (x5_1 + 2)) ≥ (a0.size:Int)
         ·rw [if_pos c10] at H
          have c10b0:decide ((a0.size:Int) ≤ (wrap64 (x5_1 + 2))) = true:=decide_eq_true c10
          clear c10
          (first|rw [c10b0]|(simp only [i64_w,i32_w];rw [c10b0])|skip)
          have H':=Am H
          clear H
          go_wp2
          repeat (go_quiet (fail);try go_wp2)
          go_meet
          case rel=>exact ⟨_,(true),(by first|rfl|(simp;done)|(simp only [i64_w,i32_w] <;> rfl)|(simp [*];done)|(simp [emp_bne,emp_beq];done)),H',⟨by have:=HK1.out;first|omega|exact Nat.le_refl _⟩,⟨by repeat (first|(with_reducible first|exact HB.out|apply bA|apply bN|apply bD)|exact HB.out)⟩⟩
         ·rw [if_neg c10] at H
          have c10b0:decide ((a0.size:Int) ≤ (wrap64 (x5_1 + 2))) = false:=decide_eq_false c10
          clear c10
          (first|rw [c10b0]|(simp only [i64_w,i32_w];rw [c10b0])|skip)
          obtain ⟨ji11,hji11⟩:∃ j_:Int,(wrap64 (x5_1 + 1)) = j_:=⟨_,rfl⟩
          replace H:(if 0 ≤ (ji11) then (if (ji11) < (a0.size:Int) then ((spec_l1Hex.f k1 (bt a0 (ji11))).bind fun t105=>(if t105 < 0 then (spec_EscNorm.j1 k1 a0 x4_1 x5_1 true) else (if 0 ≤ (wrap64 (x5_1 + 2)) then (if (wrap64 (x5_1 + 2)) < (a0.size:Int) then ((spec_l1Hex.f k1 (bt a0 (wrap64 (x5_1 + 2)))).bind fun t106=>(spec_EscNorm.j1 k1 a0 x4_1 x5_1 (decide (t106 < 0)))) else (none)) else (none)))) else (none)) else (none)) = some (r1,r2):=by first|(rw [hji11] at H;exact H)|(simp only [hji11] at H ⊢;exact H)
          have hji11w:(IntKind.i64.wrap (x5_1 + 1)) = ji11:=(i64_w _).trans hji11
          by_cases c12:0 ≤ (ji11)
          ·rw [if_pos c12] at H
           have c12b0:decide (0 ≤ (ji11)) = true:=decide_eq_true c12
           clear c12
           by_cases c13:(ji11) < (a0.size:Int)
           ·rw [if_pos c13] at H
            have c13b0:decide ((ji11) < (a0.size:Int)) = true:=decide_eq_true c13
            clear c13
            replace H:=bI H
            obtain ⟨t105,A150,H⟩:=H
            replace H:(if t105 < 0 then (spec_EscNorm.j1 k1 a0 x4_1 x5_1 true) else (if 0 ≤ (wrap64 (x5_1 + 2)) then (if (wrap64 (x5_1 + 2)) < (a0.size:Int) then ((spec_l1Hex.f k1 (bt a0 (wrap64 (x5_1 + 2)))).bind fun t106=>(spec_EscNorm.j1 k1 a0 x4_1 x5_1 (decide (t106 < 0)))) else (none)) else (none))) = some (r1,r2):=H
            have A15:=Am A150
            clear A150
            by_cases c16:t105 < 0
            ·rw [if_pos c16] at H
             have c16b0:decide (t105 < 0) = true:=decide_eq_true c16
             clear c16
             have H':=Am H
             clear H
             have p14:0 ≤ ((ji11):Int):=oD (by assumption)
             have q14:(ji11) < (a0.size:Int):=oD (by assumption)
             have hx14:=bt_at a0 (ji11)
             replace p14:=eq_true p14
             replace q14:=eq_true q14
             go_wp2_with (first|(go_at_call 77;(with_reducible refine (spec_l1Hex.calls k1 (bt a0 (ji11)) t105 _ A15.out).mono ?_);rintro e w' ⟨rfl,⟨nd,rfl⟩⟩;(try first|exact ⟨rfl,_,World.drewN_drewN _ _ _⟩|exact ⟨rfl,_,Eq.trans (World.drewN_drewN _ _ _) (congrArg (World.drewN _) (Nat.add_assoc _ _ _))⟩)))
             repeat (go_quiet (first|(go_at_call 77;(with_reducible refine (spec_l1Hex.calls k1 (bt a0 (ji11)) t105 _ A15.out).mono ?_);rintro e w' ⟨rfl,⟨nd,rfl⟩⟩;(try first|exact ⟨rfl,_,World.drewN_drewN _ _ _⟩|exact ⟨rfl,_,Eq.trans (World.drewN_drewN _ _ _) (congrArg (World.drewN _) (Nat.add_assoc _ _ _))⟩)));try go_wp2_with (first|(go_at_call 77;(with_reducible refine (spec_l1Hex.calls k1 (bt a0 (ji11)) t105 _ A15.out).mono ?_);rintro e w' ⟨rfl,⟨nd,rfl⟩⟩;(try first|exact ⟨rfl,_,World.drewN_drewN _ _ _⟩|exact ⟨rfl,_,Eq.trans (World.drewN_drewN _ _ _) (congrArg (World.drewN _) (Nat.add_assoc _ _ _))⟩))))
             go_meet
             case rel=>exact ⟨_,(true),(by first|rfl|(simp;done)|(simp only [i64_w,i32_w] <;> rfl)|(simp [*];done)|(simp [emp_bne,emp_beq];done)),H',⟨by have:=HK1.out;first|omega|exact Nat.le_refl _⟩,⟨by repeat (first|(with_reducible first|exact HB.out|apply bA|apply bN|apply bD)|exact HB.out)⟩⟩
            ·rw [if_neg c16] at H
             have c16b0:decide (t105 < 0) = false:=decide_eq_false c16
             clear c16
             obtain ⟨ji17,hji17⟩:∃ j_:Int,(wrap64 (x5_1 + 2)) = j_:=⟨_,rfl⟩
             replace H:(if 0 ≤ (ji17) then (if (ji17) < (a0.size:Int) then ((spec_l1Hex.f k1 (bt a0 (ji17))).bind fun t106=>(spec_EscNorm.j1 k1 a0 x4_1 x5_1 (decide (t106 < 0)))) else (none)) else (none)) = some (r1,r2):=by first|(rw [hji17] at H;exact H)|(simp only [hji17] at H ⊢;exact H)
             (try rw [hji17] at c10b0)
             (try rw [hji17] at A15)
             have hji17w:(IntKind.i64.wrap (x5_1 + 2)) = ji17:=(i64_w _).trans hji17
             by_cases c18:0 ≤ (ji17)
             ·rw [if_pos c18] at H
              have c18b0:decide (0 ≤ (ji17)) = true:=decide_eq_true c18
              clear c18
              by_cases c19:(ji17) < (a0.size:Int)
              ·rw [if_pos c19] at H
               have c19b0:decide ((ji17) < (a0.size:Int)) = true:=decide_eq_true c19
               clear c19
               replace H:=bI H
               obtain ⟨t106,A210,H⟩:=H
               replace H:(spec_EscNorm.j1 k1 a0 x4_1 x5_1 (decide (t106 < 0))) = some (r1,r2):=H
               have A21:=Am A210
               clear A210
               have H':=Am H
               clear H
               have p14:0 ≤ ((ji11):Int):=oD (by assumption)
               have q14:(ji11) < (a0.size:Int):=oD (by assumption)
               have hx14:=bt_at a0 (ji11)
               replace p14:=eq_true p14
               replace q14:=eq_true q14
               go_wp2_with (first|(go_at_call 77;(with_reducible refine (spec_l1Hex.calls k1 (bt a0 (ji11)) t105 _ A15.out).mono ?_);rintro e w' ⟨rfl,⟨nd,rfl⟩⟩;(try first|exact ⟨rfl,_,World.drewN_drewN _ _ _⟩|exact ⟨rfl,_,Eq.trans (World.drewN_drewN _ _ _) (congrArg (World.drewN _) (Nat.add_assoc _ _ _))⟩);have p20:0 ≤ ((ji17):Int):=oD (by assumption);have q20:(ji17) < (a0.size:Int):=oD (by assumption);have hx20:=bt_at a0 (ji17);replace p20:=eq_true p20;replace q20:=eq_true q20)|(go_at_call 77;(with_reducible refine (spec_l1Hex.calls k1 (bt a0 (ji17)) t106 _ A21.out).mono ?_);rintro e w' ⟨rfl,⟨nd,rfl⟩⟩;(try first|exact ⟨rfl,_,World.drewN_drewN _ _ _⟩|exact ⟨rfl,_,Eq.trans (World.drewN_drewN _ _ _) (congrArg (World.drewN _) (Nat.add_assoc _ _ _))⟩)))
               repeat (go_quiet (first|(go_at_call 77;(with_reducible refine (spec_l1Hex.calls k1 (bt a0 (ji11)) t105 _ A15.out).mono ?_);rintro e w' ⟨rfl,⟨nd,rfl⟩⟩;(try first|exact ⟨rfl,_,World.drewN_drewN _ _ _⟩|exact ⟨rfl,_,Eq.trans (World.drewN_drewN _ _ _) (congrArg (World.drewN _) (Nat.add_assoc _ _ _))⟩);have p20:0 ≤ ((ji17):Int):=oD (by assumption);have q20:(ji17) < (a0.size:Int):=oD (by assumption);have hx20:=bt_at a0 (ji17);replace p20:=eq_true p20;replace q20:=eq_true q20)|(go_at_call 77;(with_reducible refine (spec_l1Hex.calls k1 (bt a0 (ji17)) t106 _ A21.out).mono ?_);rintro e w' ⟨rfl,⟨nd,rfl⟩⟩;(try first|exact ⟨rfl,_,World.drewN_drewN _ _ _⟩|exact ⟨rfl,_,Eq.trans (World.drewN_drewN _ _ _) (congrArg (World.drewN _) (Nat.add_assoc _ _ _))⟩)));try go_wp2_with (first|(go_at_call 77;(with_reducible refine (spec_l1Hex.calls k1 (bt a0 (ji11)) t105 _ A15.out).mono ?_);rintro e w' ⟨rfl,⟨nd,rfl⟩⟩;(try first|exact ⟨rfl,_,World.drewN_drewN _ _ _⟩|exact ⟨rfl,_,Eq.trans (World.drewN_drewN _ _ _) (congrArg (World.drewN _) (Nat.add_assoc _ _ _))⟩);have p20:0 ≤ ((ji17):Int):=oD (by assumption);have q20:(ji17) < (a0.size:Int):=oD (by assumption);have hx20:=bt_at a0 (ji17);replace p20:=eq_true p20;replace q20:=eq_true q20)|(go_at_call 77;(with_reducible refine (spec_l1Hex.calls k1 (bt a0 (ji17)) t106 _ A21.out).mono ?_);rintro e w' ⟨rfl,⟨nd,rfl⟩⟩;(try first|exact ⟨rfl,_,World.drewN_drewN _ _ _⟩|exact ⟨rfl,_,Eq.trans (World.drewN_drewN _ _ _) (congrArg (World.drewN _) (Nat.add_assoc _ _ _))⟩))))
               go_meet
               case rel=>exact ⟨_,(decide (t106 < 0)),(by first|rfl|(simp;done)|(simp only [i64_w,i32_w] <;> rfl)|(simp [*];done)|(simp [emp_bne,emp_beq];done)),H',⟨by have:=HK1.out;first|omega|exact Nat.le_refl _⟩,⟨by repeat (first|(with_reducible first|exact HB.out|apply bA|apply bN|apply bD)|exact HB.out)⟩⟩
              ·rw [if_neg c19] at H
               exact absurd H (by simp)
             ·rw [if_neg c18] at H
              exact absurd H (by simp)
           ·rw [if_neg c13] at H
            exact absurd H (by simp)
          ·rw [if_neg c12] at H
           exact absurd H (by simp)
        case rest =>
         clear HC9
         try clear c1
         try clear p1
         try clear q1
         try clear hx1
         try clear c2
         try clear c2b0
         try clear c2b1
         try clear p2
         try clear q2
         try clear hx2
         try clear c3
         try clear c3b0
         try clear c4
         try clear c4b0
         try clear p5
         try clear q5
         try clear hx5
         try clear c6
         try clear p6
         try clear q6
         try clear hx6
         try clear c8
         try clear c8b0
         try clear c8b1
         try clear c10
         try clear c10b0
         try clear c12
         try clear c12b0
         try clear c13
         try clear c13b0
         try clear p14
         try clear q14
         try clear hx14
         try clear c16
         try clear c16b0
         try clear c18
         try clear c18b0
         try clear c19
         try clear c19b0
         try clear p20
         try clear q20
         try clear hx20
         try clear p14
         try clear p2
         try clear p20
         try clear p5
         try clear p6
         try clear q14
         try clear q20
         try clear q5
         try clear q6
         obtain ⟨kq,x44_8,rfl,HA,HJ8,HB⟩:=hcut
         cases kq with
         | zero=>exact absurd HA.out (by simp [spec_EscNorm.j1])
         | succ kj8 =>
          have H:=HA.out
          clear HA
          simp only [spec_EscNorm.j1] at H
          by_cases c22:x44_8 = true
          ·subst c22
           have H1:(some ((⟨#[]⟩:ByteArray),false)) = some (r1,r2):=by rw [if_pos rfl] at H;exact H
           clear H
           have H:=H1
           clear H1
           simp only [Option.some.injEq,Prod.mk.injEq] at H
           obtain ⟨rfl,rfl⟩:=H
           go_wp2
           repeat (go_quiet (fail);try go_wp2)
           go_ret2
           exact ⟨by first|rfl|(simp <;> rfl)|(simp [*] <;> rfl),by repeat (first|(with_reducible first|exact HB.out|apply bA|apply bN|apply bD)|exact HB.out)⟩
          ·replace c22:=Bool.eq_false_iff.mpr c22
           subst c22
           have H1:(if 0 ≤ (wrap64 (x5_1 + 1)) then (if (wrap64 (x5_1 + 1)) < (a0.size:Int) then ((spec_l1Hex.f kj8 (bt a0 (wrap64 (x5_1 + 1)))).bind fun t107=>(if 0 ≤ (wrap64 (x5_1 + 2)) then (if (wrap64 (x5_1 + 2)) < (a0.size:Int) then ((spec_l1Hex.f kj8 (bt a0 (wrap64 (x5_1 + 2)))).bind fun t108=>(spec_EscNorm.j2 kj8 a0 x4_1 (wrap64 (x5_1 + 2)) (wrap64 ((wrap64 (t107 * 16)) + t108)))) else (none)) else (none))) else (none)) else (none)) = some (r1,r2):=by rw [if_neg (show ¬ (false = true) by decide)] at H;exact H
           clear H
           have H:=H1
           clear H1
           obtain ⟨ji23,hji23⟩:∃ j_:Int,(wrap64 (x5_1 + 1)) = j_:=⟨_,rfl⟩
           replace H:(if 0 ≤ (ji23) then (if (ji23) < (a0.size:Int) then ((spec_l1Hex.f kj8 (bt a0 (ji23))).bind fun t107=>(if 0 ≤ (wrap64 (x5_1 + 2)) then (if (wrap64 (x5_1 + 2)) < (a0.size:Int) then ((spec_l1Hex.f kj8 (bt a0 (wrap64 (x5_1 + 2)))).bind fun t108=>(spec_EscNorm.j2 kj8 a0 x4_1 (wrap64 (x5_1 + 2)) (wrap64 ((wrap64 (t107 * 16)) + t108)))) else (none)) else (none))) else (none)) else (none)) = some (r1,r2):=by first|(rw [hji23] at H;exact H)|(simp only [hji23] at H ⊢;exact H)
           have hji23w:(IntKind.i64.wrap (x5_1 + 1)) = ji23:=(i64_w _).trans hji23
           by_cases c24:0 ≤ (ji23)
           ·rw [if_pos c24] at H
            have c24b0:decide (0 ≤ (ji23)) = true:=decide_eq_true c24
            clear c24
            by_cases c25:(ji23) < (a0.size:Int)
            ·rw [if_pos c25] at H
             have c25b0:decide ((ji23) < (a0.size:Int)) = true:=decide_eq_true c25
             clear c25
             replace H:=bI H
             obtain ⟨t107,A270,H⟩:=H
             replace H:(if 0 ≤ (wrap64 (x5_1 + 2)) then (if (wrap64 (x5_1 + 2)) < (a0.size:Int) then ((spec_l1Hex.f kj8 (bt a0 (wrap64 (x5_1 + 2)))).bind fun t108=>(spec_EscNorm.j2 kj8 a0 x4_1 (wrap64 (x5_1 + 2)) (wrap64 ((wrap64 (t107 * 16)) + t108)))) else (none)) else (none)) = some (r1,r2):=H
             have A27:=Am A270
             clear A270
             obtain ⟨ji28,hji28⟩:∃ j_:Int,(wrap64 (x5_1 + 2)) = j_:=⟨_,rfl⟩
             replace H:(if 0 ≤ (ji28) then (if (ji28) < (a0.size:Int) then ((spec_l1Hex.f kj8 (bt a0 (ji28))).bind fun t108=>(spec_EscNorm.j2 kj8 a0 x4_1 ji28 (wrap64 ((wrap64 (t107 * 16)) + t108)))) else (none)) else (none)) = some (r1,r2):=by first|(rw [hji28] at H;exact H)|(simp only [hji28] at H ⊢;exact H)
             (try rw [hji28] at A27)
             have hji28w:(IntKind.i64.wrap (x5_1 + 2)) = ji28:=(i64_w _).trans hji28
             by_cases c29:0 ≤ (ji28)
             ·rw [if_pos c29] at H
              have c29b0:decide (0 ≤ (ji28)) = true:=decide_eq_true c29
              clear c29
              by_cases c30:(ji28) < (a0.size:Int)
              ·rw [if_pos c30] at H
               have c30b0:decide ((ji28) < (a0.size:Int)) = true:=decide_eq_true c30
               clear c30
               replace H:=bI H
               obtain ⟨t108,A320,H⟩:=H
               replace H:(spec_EscNorm.j2 kj8 a0 x4_1 ji28 (wrap64 ((wrap64 (t107 * 16)) + t108))) = some (r1,r2):=H
               have A32:=Am A320
               clear A320
               have H':=Am H
               clear H
               have p26:0 ≤ ((ji23):Int):=oD (by assumption)
               have q26:(ji23) < (a0.size:Int):=oD (by assumption)
               have hx26:=bt_at a0 (ji23)
               replace p26:=eq_true p26
               replace q26:=eq_true q26
               go_wp2_with (first|(go_at_call 77;(with_reducible refine (spec_l1Hex.calls kj8 (bt a0 (ji23)) t107 _ A27.out).mono ?_);rintro e w' ⟨rfl,⟨nd,rfl⟩⟩;(try first|exact ⟨rfl,_,World.drewN_drewN _ _ _⟩|exact ⟨rfl,_,Eq.trans (World.drewN_drewN _ _ _) (congrArg (World.drewN _) (Nat.add_assoc _ _ _))⟩);have p31:0 ≤ ((ji28):Int):=oD (by assumption);have q31:(ji28) < (a0.size:Int):=oD (by assumption);have hx31:=bt_at a0 (ji28);replace p31:=eq_true p31;replace q31:=eq_true q31)|(go_at_call 77;(with_reducible refine (spec_l1Hex.calls kj8 (bt a0 (ji28)) t108 _ A32.out).mono ?_);rintro e w' ⟨rfl,⟨nd,rfl⟩⟩;(try first|exact ⟨rfl,_,World.drewN_drewN _ _ _⟩|exact ⟨rfl,_,Eq.trans (World.drewN_drewN _ _ _) (congrArg (World.drewN _) (Nat.add_assoc _ _ _))⟩)))
               repeat (go_quiet (first|(go_at_call 77;(with_reducible refine (spec_l1Hex.calls kj8 (bt a0 (ji23)) t107 _ A27.out).mono ?_);rintro e w' ⟨rfl,⟨nd,rfl⟩⟩;(try first|exact ⟨rfl,_,World.drewN_drewN _ _ _⟩|exact ⟨rfl,_,Eq.trans (World.drewN_drewN _ _ _) (congrArg (World.drewN _) (Nat.add_assoc _ _ _))⟩);have p31:0 ≤ ((ji28):Int):=oD (by assumption);have q31:(ji28) < (a0.size:Int):=oD (by assumption);have hx31:=bt_at a0 (ji28);replace p31:=eq_true p31;replace q31:=eq_true q31)|(go_at_call 77;(with_reducible refine (spec_l1Hex.calls kj8 (bt a0 (ji28)) t108 _ A32.out).mono ?_);rintro e w' ⟨rfl,⟨nd,rfl⟩⟩;(try first|exact ⟨rfl,_,World.drewN_drewN _ _ _⟩|exact ⟨rfl,_,Eq.trans (World.drewN_drewN _ _ _) (congrArg (World.drewN _) (Nat.add_assoc _ _ _))⟩)));try go_wp2_with (first|(go_at_call 77;(with_reducible refine (spec_l1Hex.calls kj8 (bt a0 (ji23)) t107 _ A27.out).mono ?_);rintro e w' ⟨rfl,⟨nd,rfl⟩⟩;(try first|exact ⟨rfl,_,World.drewN_drewN _ _ _⟩|exact ⟨rfl,_,Eq.trans (World.drewN_drewN _ _ _) (congrArg (World.drewN _) (Nat.add_assoc _ _ _))⟩);have p31:0 ≤ ((ji28):Int):=oD (by assumption);have q31:(ji28) < (a0.size:Int):=oD (by assumption);have hx31:=bt_at a0 (ji28);replace p31:=eq_true p31;replace q31:=eq_true q31)|(go_at_call 77;(with_reducible refine (spec_l1Hex.calls kj8 (bt a0 (ji28)) t108 _ A32.out).mono ?_);rintro e w' ⟨rfl,⟨nd,rfl⟩⟩;(try first|exact ⟨rfl,_,World.drewN_drewN _ _ _⟩|exact ⟨rfl,_,Eq.trans (World.drewN_drewN _ _ _) (congrArg (World.drewN _) (Nat.add_assoc _ _ _))⟩))))
               go_meet
               case rel=>exact ⟨_,(ji28),(wrap64 ((wrap64 (t107 * 16)) + t108)),(by first|rfl|(simp only [i64_w,i32_w] <;> rfl)|(simp;done)|(simp only [← hji28] <;> (first|rfl|simp))|(simp [*];done)),(by first|rfl|(simp;done)|(simp only [i64_w,i32_w] <;> rfl)|(simp [*];done)|(simp [emp_bne,emp_beq];done)),H',⟨by have:=HK1.out;have:=HJ8.out;first|omega|exact Nat.le_refl _⟩,⟨by repeat (first|(with_reducible first|exact HB.out|apply bA|apply bN|apply bD)|exact HB.out)⟩⟩
              ·rw [if_neg c30] at H
               exact absurd H (by simp)
             ·rw [if_neg c29] at H
              exact absurd H (by simp)
            ·rw [if_neg c25] at H
             exact absurd H (by simp)
           ·rw [if_neg c24] at H
            exact absurd H (by simp)
       ·rw [if_neg c8] at H
        have c8b0:((bt a0 x5_1) == 37) = false:=beq_eq_false_iff_ne.mpr c8
        have c8b1:((bt a0 x5_1) != 37) = true:=bne_iff_ne.mpr c8
        (first|rw [c8b0]|(simp only [i64_w,i32_w];rw [c8b0])|skip)
        have H':=Am H
        clear H
        go_wp2
        repeat (go_quiet (fail);try go_wp2)
        go_meet
        case rel=>exact ⟨_,(x5_1),(wrap64 (bt a0 x5_1)),(by first|rfl|(simp;done)|(simp only [i64_w,i32_w] <;> rfl)|(simp [*];done)|(simp [emp_bne,emp_beq];done)),(by first|rfl|(simp;done)|(simp only [i64_w,i32_w] <;> rfl)|(simp [*];done)|(simp [emp_bne,emp_beq];done)),H',⟨by have:=HK1.out;first|omega|exact Nat.le_refl _⟩,⟨by repeat (first|(with_reducible first|exact HB.out|apply bA|apply bN|apply bD)|exact HB.out)⟩⟩
      case rest =>
       clear HC7
       try clear c1
       try clear p1
       try clear q1
       try clear hx1
       try clear c2
       try clear c2b0
       try clear c2b1
       try clear p2
       try clear q2
       try clear hx2
       try clear c3
       try clear c3b0
       try clear p3
       try clear q3
       try clear hx3
       try clear c4
       try clear c4b0
       try clear p5
       try clear q5
       try clear hx5
       try clear c6
       try clear p6
       try clear q6
       try clear hx6
       try clear c8
       try clear c8b0
       try clear c8b1
       try clear c10
       try clear c10b0
       try clear c12
       try clear c12b0
       try clear c13
       try clear c13b0
       try clear p14
       try clear q14
       try clear hx14
       try clear c16
       try clear c16b0
       try clear c18
       try clear c18b0
       try clear c19
       try clear c19b0
       try clear p20
       try clear q20
       try clear hx20
       try clear c22
       try clear c24
       try clear c24b0
       try clear c25
       try clear c25b0
       try clear p26
       try clear q26
       try clear hx26
       try clear c29
       try clear c29b0
       try clear c30
       try clear c30b0
       try clear p31
       try clear q31
       try clear hx31
       try clear p1
       try clear p14
       try clear p2
       try clear p20
       try clear p26
       try clear p31
       try clear p5
       try clear p6
       try clear q1
       try clear q14
       try clear q2
       try clear q20
       try clear q26
       try clear q31
       try clear q5
       try clear q6
       obtain ⟨kq,x5_6,x6_6,rfl,rfl,HA,HJ6,HB⟩:=hcut
       cases kq with
       | zero=>exact absurd HA.out (by simp [spec_EscNorm.j2])
       | succ kj6 =>
        have H:=HA.out
        clear HA
        simp only [spec_EscNorm.j2] at H
        replace H:=bI H
        obtain ⟨t109,A330,H⟩:=H
        replace H:(if t109 = true then ((some (([(x6_6) % 256]:List Int):List Int)).bind fun y110=>(if x4_1.size + (strOfNums y110).size ≤ 9223372036854775807 then (spec_EscNorm.l0 kj6 a0 (x4_1 ++ (strOfNums y110)) (wrap64 (x5_6 + 1))) else (none))) else ((spec_l1Sign.f x6_6).bind fun t113=>(if x4_1.size + t113.size ≤ 9223372036854775807 then (spec_EscNorm.l0 kj6 a0 (x4_1 ++ t113) (wrap64 (x5_6 + 1))) else (none)))) = some (r1,r2):=H
        have A33:=Am A330
        clear A330
        by_cases c34:t109 = true
        ·subst c34
         have H1:((some (([(x6_6) % 256]:List Int):List Int)).bind fun y110=>(if x4_1.size + (strOfNums y110).size ≤ 9223372036854775807 then (spec_EscNorm.l0 kj6 a0 (x4_1 ++ (strOfNums y110)) (wrap64 (x5_6 + 1))) else (none))) = some (r1,r2):=by rw [if_pos rfl] at H;exact H
         clear H
         have H:=H1
         clear H1
         obtain ⟨y110,hy110⟩:∃ y_:List Int,y_ = (([(x6_6) % 256]:List Int)):=⟨_,rfl⟩
         replace H:(if x4_1.size + (strOfNums y110).size ≤ 9223372036854775807 then (spec_EscNorm.l0 kj6 a0 (x4_1 ++ (strOfNums y110)) (wrap64 (x5_6 + 1))) else (none)) = some (r1,r2):=by first|(rw [hy110];with_reducible exact H)|(have H2_:=(Option.bind_some _ _).symm.trans H;rw [hy110];with_reducible exact H2_)|(have H2_:=(Option.bind_some _ _).symm.trans H;with_reducible exact H2_)|with_reducible exact H|(rw [hy110];exact H)|exact H
         have Ny110:=Am hy110
         clear hy110
         by_cases c35:x4_1.size + (strOfNums y110).size ≤ 9223372036854775807
         ·rw [if_pos c35] at H
          have c35b0:=eq_true c35
          have c35b1:=decide_eq_true c35
          try have c35b2:(9223372036854775807 < x4_1.size + (strOfNums y110).size) = False:=eq_false (Nat.not_lt.2 c35)
          have H':=Am H
          clear H
          go_wp2_with (first|(go_at_call 78;(with_reducible refine (spec_l1Plain.calls ((x6_6) % 256) true _ A33.out).mono ?_);rintro e w' ⟨rfl,⟨nd,rfl⟩⟩;(try first|exact ⟨rfl,_,World.drewN_drewN _ _ _⟩|exact ⟨rfl,_,Eq.trans (World.drewN_drewN _ _ _) (congrArg (World.drewN _) (Nat.add_assoc _ _ _))⟩))|((with_reducible refine gate_dst (N:=65) rfl ?_);refine Kd.R_lit (Kd.int .u8) _ 5 ?hg (N:=65) ?hd (xs:=([(x6_6) % 256]:List Int)) (inner:=[.int .u8 ((x6_6) % 256)]) (ok:=fun _=>True) (okp:=fun _=>True) ?hr ?hp (fun _ hk=>hk) trivial (Below.refl _ _) (Nat.le_refl _) (by simp) ?_;(case hd=>rfl);(case hg=>rfl);(case hr=>(go_simp <;> rfl));(case hp=>exact (Reps.one (show Kd.M (Kd.int .u8) _ _ _ ((x6_6) % 256) [.int .u8 ((x6_6) % 256)] from rfl) (Reps.none _ _)));intro v111 w36 ho37 hb hg_ hnew_;clear hg_ hnew_;(first|rw [← Ny110.out] at ho37|(simp only [Int.reduceToNat] at ho37;rw [← Ny110.out] at ho37));have n0_:=Am (Kd.R_lower ho37 (bU (by repeat (first|(with_reducible first|exact HB.out|apply bA|apply bN|apply bD)|exact HB.out))));have n1_:=Am (bT (by repeat (first|(with_reducible first|exact HB.out|apply bA|apply bN|apply bD)|exact HB.out)) hb);clear HB;have HO112:=n0_;have HB:=n1_;clear n0_ n1_ hb ho37;have hcv38:=own_string (P:=Tryd.prog) Tryd.underlying22 Tryd.underlying5 Tryd.underlying9 (Kd.own_of_R HO112.out)))
          repeat (go_quiet (first|(go_at_call 78;(with_reducible refine (spec_l1Plain.calls ((x6_6) % 256) true _ A33.out).mono ?_);rintro e w' ⟨rfl,⟨nd,rfl⟩⟩;(try first|exact ⟨rfl,_,World.drewN_drewN _ _ _⟩|exact ⟨rfl,_,Eq.trans (World.drewN_drewN _ _ _) (congrArg (World.drewN _) (Nat.add_assoc _ _ _))⟩))|((with_reducible refine gate_dst (N:=65) rfl ?_);refine Kd.R_lit (Kd.int .u8) _ 5 ?hg (N:=65) ?hd (xs:=([(x6_6) % 256]:List Int)) (inner:=[.int .u8 ((x6_6) % 256)]) (ok:=fun _=>True) (okp:=fun _=>True) ?hr ?hp (fun _ hk=>hk) trivial (Below.refl _ _) (Nat.le_refl _) (by simp) ?_;(case hd=>rfl);(case hg=>rfl);(case hr=>(go_simp <;> rfl));(case hp=>exact (Reps.one (show Kd.M (Kd.int .u8) _ _ _ ((x6_6) % 256) [.int .u8 ((x6_6) % 256)] from rfl) (Reps.none _ _)));intro v111 w36 ho37 hb hg_ hnew_;clear hg_ hnew_;(first|rw [← Ny110.out] at ho37|(simp only [Int.reduceToNat] at ho37;rw [← Ny110.out] at ho37));have n0_:=Am (Kd.R_lower ho37 (bU (by repeat (first|(with_reducible first|exact HB.out|apply bA|apply bN|apply bD)|exact HB.out))));have n1_:=Am (bT (by repeat (first|(with_reducible first|exact HB.out|apply bA|apply bN|apply bD)|exact HB.out)) hb);clear HB;have HO112:=n0_;have HB:=n1_;clear n0_ n1_ hb ho37;have hcv38:=own_string (P:=Tryd.prog) Tryd.underlying22 Tryd.underlying5 Tryd.underlying9 (Kd.own_of_R HO112.out)));try go_wp2_with (first|(go_at_call 78;(with_reducible refine (spec_l1Plain.calls ((x6_6) % 256) true _ A33.out).mono ?_);rintro e w' ⟨rfl,⟨nd,rfl⟩⟩;(try first|exact ⟨rfl,_,World.drewN_drewN _ _ _⟩|exact ⟨rfl,_,Eq.trans (World.drewN_drewN _ _ _) (congrArg (World.drewN _) (Nat.add_assoc _ _ _))⟩))|((with_reducible refine gate_dst (N:=65) rfl ?_);refine Kd.R_lit (Kd.int .u8) _ 5 ?hg (N:=65) ?hd (xs:=([(x6_6) % 256]:List Int)) (inner:=[.int .u8 ((x6_6) % 256)]) (ok:=fun _=>True) (okp:=fun _=>True) ?hr ?hp (fun _ hk=>hk) trivial (Below.refl _ _) (Nat.le_refl _) (by simp) ?_;(case hd=>rfl);(case hg=>rfl);(case hr=>(go_simp <;> rfl));(case hp=>exact (Reps.one (show Kd.M (Kd.int .u8) _ _ _ ((x6_6) % 256) [.int .u8 ((x6_6) % 256)] from rfl) (Reps.none _ _)));intro v111 w36 ho37 hb hg_ hnew_;clear hg_ hnew_;(first|rw [← Ny110.out] at ho37|(simp only [Int.reduceToNat] at ho37;rw [← Ny110.out] at ho37));have n0_:=Am (Kd.R_lower ho37 (bU (by repeat (first|(with_reducible first|exact HB.out|apply bA|apply bN|apply bD)|exact HB.out))));have n1_:=Am (bT (by repeat (first|(with_reducible first|exact HB.out|apply bA|apply bN|apply bD)|exact HB.out)) hb);clear HB;have HO112:=n0_;have HB:=n1_;clear n0_ n1_ hb ho37;have hcv38:=own_string (P:=Tryd.prog) Tryd.underlying22 Tryd.underlying5 Tryd.underlying9 (Kd.own_of_R HO112.out))))
          go_roundg kj6
          case measure=>have:=HK1.out;have:=HJ6.out;omega
          case rel=>exact ⟨(x4_1 ++ (strOfNums y110)),(wrap64 (x5_6 + 1)),(by first|rfl|(simp;done)|(simp only [i64_w,i32_w] <;> rfl)|(simp [*];done)|(simp [emp_bne,emp_beq];done)),(by first|rfl|(simp;done)|(simp only [i64_w,i32_w] <;> rfl)|(simp [*];done)|(simp [emp_bne,emp_beq];done)),H',⟨by have:=HK1.out;have:=HJ6.out;omega⟩,⟨by repeat (first|(with_reducible first|exact HB.out|apply bA|apply bN|apply bD)|exact HB.out)⟩⟩
         ·rw [if_neg c35] at H
          exact absurd H (by simp)
        ·replace c34:=Bool.eq_false_iff.mpr c34
         subst c34
         have H1:((spec_l1Sign.f x6_6).bind fun t113=>(if x4_1.size + t113.size ≤ 9223372036854775807 then (spec_EscNorm.l0 kj6 a0 (x4_1 ++ t113) (wrap64 (x5_6 + 1))) else (none))) = some (r1,r2):=by rw [if_neg (show ¬ (false = true) by decide)] at H;exact H
         clear H
         have H:=H1
         clear H1
         replace H:=bI H
         obtain ⟨t113,A390,H⟩:=H
         replace H:(if x4_1.size + t113.size ≤ 9223372036854775807 then (spec_EscNorm.l0 kj6 a0 (x4_1 ++ t113) (wrap64 (x5_6 + 1))) else (none)) = some (r1,r2):=H
         have A39:=Am A390
         clear A390
         by_cases c40:x4_1.size + t113.size ≤ 9223372036854775807
         ·rw [if_pos c40] at H
          have c40b0:=eq_true c40
          have c40b1:=decide_eq_true c40
          try have c40b2:(9223372036854775807 < x4_1.size + t113.size) = False:=eq_false (Nat.not_lt.2 c40)
          have H':=Am H
          clear H
          go_wp2_with (first|(go_at_call 78;(with_reducible refine (spec_l1Plain.calls ((x6_6) % 256) false _ A33.out).mono ?_);rintro e w' ⟨rfl,⟨nd,rfl⟩⟩;(try first|exact ⟨rfl,_,World.drewN_drewN _ _ _⟩|exact ⟨rfl,_,Eq.trans (World.drewN_drewN _ _ _) (congrArg (World.drewN _) (Nat.add_assoc _ _ _))⟩))|(go_at_call 79;(with_reducible refine (spec_l1Sign.calls x6_6 t113 _ A39.out).mono ?_);rintro e w' ⟨rfl,⟨nd,rfl⟩⟩;(try first|exact ⟨rfl,_,World.drewN_drewN _ _ _⟩|exact ⟨rfl,_,Eq.trans (World.drewN_drewN _ _ _) (congrArg (World.drewN _) (Nat.add_assoc _ _ _))⟩)))
          repeat (go_quiet (first|(go_at_call 78;(with_reducible refine (spec_l1Plain.calls ((x6_6) % 256) false _ A33.out).mono ?_);rintro e w' ⟨rfl,⟨nd,rfl⟩⟩;(try first|exact ⟨rfl,_,World.drewN_drewN _ _ _⟩|exact ⟨rfl,_,Eq.trans (World.drewN_drewN _ _ _) (congrArg (World.drewN _) (Nat.add_assoc _ _ _))⟩))|(go_at_call 79;(with_reducible refine (spec_l1Sign.calls x6_6 t113 _ A39.out).mono ?_);rintro e w' ⟨rfl,⟨nd,rfl⟩⟩;(try first|exact ⟨rfl,_,World.drewN_drewN _ _ _⟩|exact ⟨rfl,_,Eq.trans (World.drewN_drewN _ _ _) (congrArg (World.drewN _) (Nat.add_assoc _ _ _))⟩)));try go_wp2_with (first|(go_at_call 78;(with_reducible refine (spec_l1Plain.calls ((x6_6) % 256) false _ A33.out).mono ?_);rintro e w' ⟨rfl,⟨nd,rfl⟩⟩;(try first|exact ⟨rfl,_,World.drewN_drewN _ _ _⟩|exact ⟨rfl,_,Eq.trans (World.drewN_drewN _ _ _) (congrArg (World.drewN _) (Nat.add_assoc _ _ _))⟩))|(go_at_call 79;(with_reducible refine (spec_l1Sign.calls x6_6 t113 _ A39.out).mono ?_);rintro e w' ⟨rfl,⟨nd,rfl⟩⟩;(try first|exact ⟨rfl,_,World.drewN_drewN _ _ _⟩|exact ⟨rfl,_,Eq.trans (World.drewN_drewN _ _ _) (congrArg (World.drewN _) (Nat.add_assoc _ _ _))⟩))))
          go_roundg kj6
          case measure=>have:=HK1.out;have:=HJ6.out;omega
          case rel=>exact ⟨(x4_1 ++ t113),(wrap64 (x5_6 + 1)),(by first|rfl|(simp;done)|(simp only [i64_w,i32_w] <;> rfl)|(simp [*];done)|(simp [emp_bne,emp_beq];done)),(by first|rfl|(simp;done)|(simp only [i64_w,i32_w] <;> rfl)|(simp [*];done)|(simp [emp_bne,emp_beq];done)),H',⟨by have:=HK1.out;have:=HJ6.out;omega⟩,⟨by repeat (first|(with_reducible first|exact HB.out|apply bA|apply bN|apply bD)|exact HB.out)⟩⟩
         ·rw [if_neg c40] at H
          exact absurd H (by simp)
     ·rw [if_neg c4] at H
      exact absurd H (by simp)
    ·rw [if_neg c3] at H
     have c3b0:decide (x5_1 < (a0.size:Int)) = false:=decide_eq_false c3
     clear c3
     simp only [Option.some.injEq,Prod.mk.injEq] at H
     obtain ⟨rfl,rfl⟩:=H
     go_wp2
     repeat (go_quiet (fail);try go_wp2)
     go_ret2
     exact ⟨by first|rfl|(simp <;> rfl)|(simp [*] <;> rfl),by repeat (first|(with_reducible first|exact HB.out|apply bA|apply bN|apply bD)|exact HB.out)⟩

/-! ### spec_l1Norm: function 43 -/
def spec_l1Norm.f (k:Nat) (a0:ByteArray):Option (Bool):=(spec_EscNorm.f k a0).bind fun bt114=>(if bt114.2 = true then (some (bt114.1.toList == a0.toList)) else (some false))
theorem spec_l1Norm.mono:∀ a0 k,LeO (spec_l1Norm.f k a0) (spec_l1Norm.f (k + 1) a0):=by
 intro a0 k
 unfold spec_l1Norm.f
 repeat' first
   | (with_reducible apply spec_EscNorm.mono)
   | (with_reducible exact LeO.refl _)
   | (with_reducible exact LeO.none _)
   | (with_reducible refine LeO.ite ?_ ?_)
   | (with_reducible refine LeO.bind ?_ (fun _=>?_))




theorem spec_l1Norm.calls (k:Nat) (a0:ByteArray) (r:Bool) (w:World) (h:spec_l1Norm.f k a0 = some r) :
  Calls Tryd.prog 43 #[.string a0] w fun e w'=>e = .returned (.bool r) ∧ Below w.heap.size w w':=by
 have HB:=Am (Below.refl w.heap.size w)
 have H:((spec_EscNorm.f k a0).bind fun bt114=>(if bt114.2 = true then (some (bt114.1.toList == a0.toList)) else (some false))) = some r:=h
 clear h
 replace H:=bI H
 obtain ⟨⟨t114,t115⟩,A20,H⟩:=H
 replace H:(if t115 = true then (some (t114.toList == a0.toList)) else (some false)) = some r:=H
 have A2:=Am A20
 clear A20
 by_cases c3:t115 = true
 ·subst c3
  have H1:(some (t114.toList == a0.toList)) = some r:=by rw [if_pos rfl] at H;exact H
  clear H
  have H:=H1
  clear H1
  obtain rfl:=Option.some.inj H
  go_enter Tryd.func43,Tryd.ntmps43
  go_wp2_with (first|((with_reducible refine gate_callee (f:=60) rfl ?_);refine goesL_ (some 7) rfl rfl Tryd.func60 (by kernel_rfl) rfl #[.string a0] rfl (aE1 rfl) ?_;(with_reducible refine (spec_EscNorm.calls k a0 t114 true _ A2.out).mono ?_);rintro e w4 ⟨rfl,hb⟩;refine ⟨_,rfl,?_⟩;have n0_:=Am (bT (by repeat (first|(with_reducible first|exact HB.out|apply bA|apply bN|apply bD)|exact HB.out)) hb);clear HB;have HB:=n0_;clear n0_;(try clear hb)))
  go_ret
  exact ⟨by first|rfl|(simp <;> rfl)|(simp [*] <;> rfl),by repeat (first|(with_reducible first|exact HB.out|apply bA|apply bN|apply bD)|exact HB.out)⟩
 ·replace c3:=Bool.eq_false_iff.mpr c3
  subst c3
  have H1:(some false) = some r:=by rw [if_neg (show ¬ (false = true) by decide)] at H;exact H
  clear H
  have H:=H1
  clear H1
  obtain rfl:=Option.some.inj H
  go_enter Tryd.func43,Tryd.ntmps43
  go_wp2_with (first|((with_reducible refine gate_callee (f:=60) rfl ?_);refine goesL_ (some 7) rfl rfl Tryd.func60 (by kernel_rfl) rfl #[.string a0] rfl (aE1 rfl) ?_;(with_reducible refine (spec_EscNorm.calls k a0 t114 false _ A2.out).mono ?_);rintro e w5 ⟨rfl,hb⟩;refine ⟨_,rfl,?_⟩;have n0_:=Am (bT (by repeat (first|(with_reducible first|exact HB.out|apply bA|apply bN|apply bD)|exact HB.out)) hb);clear HB;have HB:=n0_;clear n0_;(try clear hb)))
  go_ret
  exact ⟨by first|rfl|(simp <;> rfl)|(simp [*] <;> rfl),by repeat (first|(with_reducible first|exact HB.out|apply bA|apply bN|apply bD)|exact HB.out)⟩

/-! ### spec_l1Path: function 71 -/
def spec_l1Path.l0:Nat → ByteArray → Int → ByteArray → List ByteArray → Bool → ByteArray → Option (ByteArray)
 | 0,_,_,_,_,_,_=>none
 | k + 1,x3,x4,x117000,x117001,x117002,x117003=>if x4 < (x117001.length:Int) then (if x4 > 0 then (if x3.size + 1 ≤ 9223372036854775807 then (if 0 ≤ x4 then (if (x3 ++ (⟨#[47]⟩:ByteArray)).size + (rdOf ByteArray.empty x117001 x4).size ≤ 9223372036854775807 then (spec_l1Path.l0 k ((x3 ++ (⟨#[47]⟩:ByteArray)) ++ (rdOf ByteArray.empty x117001 x4)) (wrap64 (x4 + 1)) x117000 x117001 x117002 x117003) else (none)) else (none)) else (none)) else (if 0 ≤ x4 then (if x3.size + (rdOf ByteArray.empty x117001 x4).size ≤ 9223372036854775807 then (spec_l1Path.l0 k (x3 ++ (rdOf ByteArray.empty x117001 x4)) (wrap64 (x4 + 1)) x117000 x117001 x117002 x117003) else (none)) else (none))) else (if x117002 = true then (if x3.size + 1 ≤ 9223372036854775807 then (if (x3 ++ (⟨#[63]⟩:ByteArray)).size + x117003.size ≤ 9223372036854775807 then (some ((x3 ++ (⟨#[63]⟩:ByteArray)) ++ x117003)) else (none)) else (none)) else (some x3))
def spec_l1Path.f (k:Nat) (a0_0:ByteArray) (l0_1:List ByteArray) (a0_2:Bool) (a0_3:ByteArray):Option (ByteArray):=spec_l1Path.l0 k (⟨#[47]⟩:ByteArray) 0 a0_0 l0_1 a0_2 a0_3
theorem spec_l1Path.mono_l:∀ k,(∀ y0 y1 y2 y3 y4 y5,LeO (spec_l1Path.l0 k y0 y1 y2 y3 y4 y5) (spec_l1Path.l0 (k + 1) y0 y1 y2 y3 y4 y5))
 | 0=>fun _ _ _ _ _ _ r h=>by simp [spec_l1Path.l0] at h
 | k + 1=>by
  have ih0:=spec_l1Path.mono_l k
  ·intro y0 y1 y2 y3 y4 y5
   unfold spec_l1Path.l0
   repeat' first
   | (with_reducible apply ih0)
   | (with_reducible exact LeO.refl _)
   | (with_reducible exact LeO.none _)
   | (with_reducible refine LeO.ite ?_ ?_)
   | (with_reducible refine LeO.bind ?_ (fun _=>?_))




theorem spec_l1Path.mono:∀ a0 a1 a2 a3 k,LeO (spec_l1Path.f k a0 a1 a2 a3) (spec_l1Path.f (k + 1) a0 a1 a2 a3):=by
 intro a0 a1 a2 a3 k
 have ih0:=spec_l1Path.mono_l k
 unfold spec_l1Path.f
 repeat' first
   | (with_reducible apply ih0)
   | (with_reducible exact LeO.refl _)
   | (with_reducible exact LeO.none _)
   | (with_reducible refine LeO.ite ?_ ?_)
   | (with_reducible refine LeO.bind ?_ (fun _=>?_))




theorem spec_l1Path.calls (k:Nat) (a0_0:ByteArray) (A0_1:Option Addr) (c0_1:Nat) (l0_1:List ByteArray) (a0_2:Bool) (a0_3:ByteArray) (r:ByteArray) (w:World) (hr0_1:Kd.C Kd.string w A0_1 l0_1.length l0_1) (hc0_1:l0_1.length ≤ c0_1) (h:spec_l1Path.f k a0_0 l0_1 a0_2 a0_3 = some r) :
  Calls Tryd.prog 71 #[.agg #[.string a0_0, .slice A0_1 l0_1.length c0_1, .bool a0_2, .string a0_3]] w fun e w'=>e = .returned (.string r) ∧ Below w.heap.size w w':=by
 have hu25:=Tryd.underlying25
 have HR0_1:=Am hr0_1
 have HC0_1:=Am hc0_1
 clear hr0_1 hc0_1
 have HB:=Am (Below.refl w.heap.size w)
 have H:(spec_l1Path.l0 k (⟨#[47]⟩:ByteArray) 0 a0_0 l0_1 a0_2 a0_3) = some r:=h
 clear h
 have H':=Am H
 clear H
 go_enter Tryd.func71,Tryd.ntmps71
 go_wp2_with (first|((with_reducible refine gate_dst (N:=1) rfl ?_);refine box_event ?hg (N:=1) ?hd (cs:=#[.string a0_0, .slice A0_1 l0_1.length c0_1, .bool a0_2, .string a0_3]) (t:=25) ?hr ?_;(case hd=>rfl);(case hg=>rfl);(case hr=>(go_simp <;> rfl));intro gb116 hg w2 hbox hb;have n0_:=Am (bT (by repeat (first|(with_reducible first|exact HB.out|apply bA|apply bN|apply bD)|exact HB.out)) hb);have n1_:=Am (hbox);have n2_:=Am ((by rw [hg];exact (bU (by repeat (first|(with_reducible first|exact HB.out|apply bA|apply bN|apply bD)|exact HB.out))):w.heap.size ≤ gb116));have n3_:=n2_;clear HB;have HB:=n0_;have BK116:=n1_;have GW116:=n2_;have GE116:=n3_;clear n0_ n1_ n2_ n3_ hb hbox hg))
 go_loopg [3,4] k (fun kq v3 v4 w'=>∃ (x3_1:ByteArray) (x4_1:Int),v3 = .string x3_1 ∧ v4 = .int .i64 x4_1 ∧ Aside0 (spec_l1Path.l0 kq x3_1 x4_1 a0_0 l0_1 a0_2 a0_3 = some r) ∧ Aside0 (kq ≤ k) ∧ Aside0 (w'.heap[gb116]? = some (.cells #[.string a0_0,(.slice A0_1 l0_1.length c0_1), .bool a0_2, .string a0_3] 25 (0,0))) ∧ Aside0 (Below w.heap.size w w'))
 case atStart=>exact ⟨((⟨#[47]⟩:ByteArray)),(0),(by first|rfl|(simp;done)|(simp only [i64_w,i32_w] <;> rfl)|(simp [*];done)|(simp [emp_bne,emp_beq];done)),(by first|rfl|(simp;done)|(simp only [i64_w,i32_w] <;> rfl)|(simp [*];done)|(simp [emp_bne,emp_beq];done)),H',⟨Nat.le_refl _⟩,⟨by refine bB ?_;exact BK116.out⟩,⟨by repeat (first|(with_reducible first|exact HB.out|apply bA|apply bN|apply bD|refine bS ?_ GE116.out)|exact HB.out)⟩⟩
 case round =>
  clear H'
  try clear p2
  obtain ⟨x3_1,x4_1,rfl,rfl,HA,HK1,BK116,HB⟩:=hrel
  cases gk with
  | zero=>exact absurd HA.out (by simp [spec_l1Path.l0])
  | succ k1 =>
   have H:=HA.out
   clear HA
   simp only [spec_l1Path.l0] at H
   by_cases c3:x4_1 < (l0_1.length:Int)
   ·rw [if_pos c3] at H
    have c3b0:decide (x4_1 < (l0_1.length:Int)) = true:=decide_eq_true c3
    clear c3
    by_cases c4:x4_1 > 0
    ·rw [if_pos c4] at H
     have c4b0:decide (0 < x4_1) = true:=decide_eq_true c4
     clear c4
     by_cases c5:x3_1.size + 1 ≤ 9223372036854775807
     ·rw [if_pos c5] at H
      have c5b0:=eq_true c5
      have c5b1:=decide_eq_true c5
      try have c5b2:(9223372036854775807 < x3_1.size + 1) = False:=eq_false (Nat.not_lt.2 c5)
      by_cases c6:0 ≤ x4_1
      ·rw [if_pos c6] at H
       have c6b0:decide (0 ≤ x4_1) = true:=decide_eq_true c6
       clear c6
       by_cases c7:(x3_1 ++ (⟨#[47]⟩:ByteArray)).size + (rdOf ByteArray.empty l0_1 x4_1).size ≤ 9223372036854775807
       ·rw [if_pos c7] at H
        have c7b0:=eq_true c7
        have c7b1:=decide_eq_true c7
        try have c7b3:(9223372036854775807 < x3_1.size + 1 + (rdOf ByteArray.empty l0_1 x4_1).size) = False:=eq_false (Nat.not_lt.2 (by have h_:=c7;simp only [ByteArray.size_append] at h_;exact h_))
        try have c7b2:(9223372036854775807 < (x3_1 ++ (⟨#[47]⟩:ByteArray)).size + (rdOf ByteArray.empty l0_1 x4_1).size) = False:=eq_false (Nat.not_lt.2 c7)
        have H':=Am H
        clear H
        obtain ⟨hcz8_0,hcz8_1,hcz8_2,hcz8_3,hfz8_0,hfz8_1,hfz8_2,hfz8_3⟩:=bX BK116.out







        have p117:0 ≤ (x4_1:Int):=oD (by assumption)
        have q117:x4_1 < (l0_1.length:Int):=oD (by assumption)
        obtain ⟨ad117,e117,hx117_0⟩:=Kd.at_string HR0_1.out x4_1 p117 q117
        cases e117
        replace hx117_0:=(HB.out.cell (World.block_lt_of_cell? w _ hx117_0)).trans hx117_0
        replace p117:=eq_true p117
        replace q117:=eq_true q117
        go_wp2
        go_roundg k1
        case measure=>have:=HK1.out;omega
        case rel=>exact ⟨((x3_1 ++ (⟨#[47]⟩:ByteArray)) ++ (rdOf ByteArray.empty l0_1 x4_1)),(wrap64 (x4_1 + 1)),(by first|rfl|(simp;done)|(simp only [i64_w,i32_w] <;> rfl)|(simp [*];done)|(simp [emp_bne,emp_beq];done)),(by first|rfl|(simp;done)|(simp only [i64_w,i32_w] <;> rfl)|(simp [*];done)|(simp [emp_bne,emp_beq];done)),H',⟨by have:=HK1.out;omega⟩,⟨by refine bB ?_;exact BK116.out⟩,⟨by repeat (first|(with_reducible first|exact HB.out|apply bA|apply bN|apply bD|refine bS ?_ GE116.out)|exact HB.out)⟩⟩
       ·rw [if_neg c7] at H
        exact absurd H (by simp)
      ·rw [if_neg c6] at H
       exact absurd H (by simp)
     ·rw [if_neg c5] at H
      exact absurd H (by simp)
    ·rw [if_neg c4] at H
     have c4b0:decide (0 < x4_1) = false:=decide_eq_false c4
     clear c4
     by_cases c9:0 ≤ x4_1
     ·rw [if_pos c9] at H
      have c9b0:decide (0 ≤ x4_1) = true:=decide_eq_true c9
      clear c9
      by_cases c10:x3_1.size + (rdOf ByteArray.empty l0_1 x4_1).size ≤ 9223372036854775807
      ·rw [if_pos c10] at H
       have c10b0:=eq_true c10
       have c10b1:=decide_eq_true c10
       try have c10b2:(9223372036854775807 < x3_1.size + (rdOf ByteArray.empty l0_1 x4_1).size) = False:=eq_false (Nat.not_lt.2 c10)
       have H':=Am H
       clear H
       obtain ⟨hcz11_0,hcz11_1,hcz11_2,hcz11_3,hfz11_0,hfz11_1,hfz11_2,hfz11_3⟩:=bX BK116.out







       have p118:0 ≤ (x4_1:Int):=oD (by assumption)
       have q118:x4_1 < (l0_1.length:Int):=oD (by assumption)
       obtain ⟨ad118,e118,hx118_0⟩:=Kd.at_string HR0_1.out x4_1 p118 q118
       cases e118
       replace hx118_0:=(HB.out.cell (World.block_lt_of_cell? w _ hx118_0)).trans hx118_0
       replace p118:=eq_true p118
       replace q118:=eq_true q118
       go_wp2
       go_roundg k1
       case measure=>have:=HK1.out;omega
       case rel=>exact ⟨(x3_1 ++ (rdOf ByteArray.empty l0_1 x4_1)),(wrap64 (x4_1 + 1)),(by first|rfl|(simp;done)|(simp only [i64_w,i32_w] <;> rfl)|(simp [*];done)|(simp [emp_bne,emp_beq];done)),(by first|rfl|(simp;done)|(simp only [i64_w,i32_w] <;> rfl)|(simp [*];done)|(simp [emp_bne,emp_beq];done)),H',⟨by have:=HK1.out;omega⟩,⟨by refine bB ?_;exact BK116.out⟩,⟨by repeat (first|(with_reducible first|exact HB.out|apply bA|apply bN|apply bD|refine bS ?_ GE116.out)|exact HB.out)⟩⟩
      ·rw [if_neg c10] at H
       exact absurd H (by simp)
     ·rw [if_neg c9] at H
      exact absurd H (by simp)
   ·rw [if_neg c3] at H
    have c3b0:decide (x4_1 < (l0_1.length:Int)) = false:=decide_eq_false c3
    clear c3
    by_cases c12:a0_2 = true
    ·subst c12
     have H1:(if x3_1.size + 1 ≤ 9223372036854775807 then (if (x3_1 ++ (⟨#[63]⟩:ByteArray)).size + a0_3.size ≤ 9223372036854775807 then (some ((x3_1 ++ (⟨#[63]⟩:ByteArray)) ++ a0_3)) else (none)) else (none)) = some r:=by rw [if_pos rfl] at H;exact H
     clear H
     have H:=H1
     clear H1
     by_cases c13:x3_1.size + 1 ≤ 9223372036854775807
     ·rw [if_pos c13] at H
      have c13b0:=eq_true c13
      have c13b1:=decide_eq_true c13
      try have c13b2:(9223372036854775807 < x3_1.size + 1) = False:=eq_false (Nat.not_lt.2 c13)
      by_cases c14:(x3_1 ++ (⟨#[63]⟩:ByteArray)).size + a0_3.size ≤ 9223372036854775807
      ·rw [if_pos c14] at H
       have c14b0:=eq_true c14
       have c14b1:=decide_eq_true c14
       try have c14b3:(9223372036854775807 < x3_1.size + 1 + a0_3.size) = False:=eq_false (Nat.not_lt.2 (by have h_:=c14;simp only [ByteArray.size_append] at h_;exact h_))
       try have c14b2:(9223372036854775807 < (x3_1 ++ (⟨#[63]⟩:ByteArray)).size + a0_3.size) = False:=eq_false (Nat.not_lt.2 c14)
       obtain rfl:=Option.some.inj H
       obtain ⟨hcz15_0,hcz15_1,hcz15_2,hcz15_3,hfz15_0,hfz15_1,hfz15_2,hfz15_3⟩:=bX BK116.out







       go_wp2
       go_ret
       exact ⟨by first|rfl|(simp <;> rfl)|(simp [*] <;> rfl),by repeat (first|(with_reducible first|exact HB.out|apply bA|apply bN|apply bD|refine bS ?_ GE116.out)|exact HB.out)⟩
      ·rw [if_neg c14] at H
       exact absurd H (by simp)
     ·rw [if_neg c13] at H
      exact absurd H (by simp)
    ·replace c12:=Bool.eq_false_iff.mpr c12
     subst c12
     have H1:(some x3_1) = some r:=by rw [if_neg (show ¬ (false = true) by decide)] at H;exact H
     clear H
     have H:=H1
     clear H1
     obtain rfl:=Option.some.inj H
     obtain ⟨hcz16_0,hcz16_1,hcz16_2,hcz16_3,hfz16_0,hfz16_1,hfz16_2,hfz16_3⟩:=bX BK116.out







     go_wp2
     go_ret
     exact ⟨by first|rfl|(simp <;> rfl)|(simp [*] <;> rfl),by repeat (first|(with_reducible first|exact HB.out|apply bA|apply bN|apply bD|refine bS ?_ GE116.out)|exact HB.out)⟩

/-! ### spec_l1Text: function 44 -/
def spec_l1Text.f (k:Nat) (a0_0:ByteArray) (l0_1:List ByteArray) (a0_2:Bool) (a0_3:ByteArray):Option (ByteArray):=if 2 + a0_0.size ≤ 9223372036854775807 then ((spec_l1Path.f k a0_0 l0_1 a0_2 a0_3).bind fun t120=>(if ((⟨#[47,47]⟩:ByteArray) ++ a0_0).size + t120.size ≤ 9223372036854775807 then (some (((⟨#[47,47]⟩:ByteArray) ++ a0_0) ++ t120)) else (none))) else (none)
theorem spec_l1Text.mono:∀ a0 a1 a2 a3 k,LeO (spec_l1Text.f k a0 a1 a2 a3) (spec_l1Text.f (k + 1) a0 a1 a2 a3):=by
 intro a0 a1 a2 a3 k
 unfold spec_l1Text.f
 repeat' first
   | (with_reducible apply spec_l1Path.mono)
   | (with_reducible exact LeO.refl _)
   | (with_reducible exact LeO.none _)
   | (with_reducible refine LeO.ite ?_ ?_)
   | (with_reducible refine LeO.bind ?_ (fun _=>?_))




theorem spec_l1Text.calls (k:Nat) (a0_0:ByteArray) (A0_1:Option Addr) (c0_1:Nat) (l0_1:List ByteArray) (a0_2:Bool) (a0_3:ByteArray) (r:ByteArray) (w:World) (hr0_1:Kd.C Kd.string w A0_1 l0_1.length l0_1) (hc0_1:l0_1.length ≤ c0_1) (h:spec_l1Text.f k a0_0 l0_1 a0_2 a0_3 = some r) :
  Calls Tryd.prog 44 #[.agg #[.string a0_0, .slice A0_1 l0_1.length c0_1, .bool a0_2, .string a0_3]] w fun e w'=>e = .returned (.string r) ∧ Below w.heap.size w w':=by
 have hu25:=Tryd.underlying25
 have HR0_1:=Am hr0_1
 have HC0_1:=Am hc0_1
 clear hr0_1 hc0_1
 have HB:=Am (Below.refl w.heap.size w)
 have H:(if 2 + a0_0.size ≤ 9223372036854775807 then ((spec_l1Path.f k a0_0 l0_1 a0_2 a0_3).bind fun t120=>(if ((⟨#[47,47]⟩:ByteArray) ++ a0_0).size + t120.size ≤ 9223372036854775807 then (some (((⟨#[47,47]⟩:ByteArray) ++ a0_0) ++ t120)) else (none))) else (none)) = some r:=h
 clear h
 by_cases c2:2 + a0_0.size ≤ 9223372036854775807
 ·rw [if_pos c2] at H
  have c2b0:=eq_true c2
  have c2b1:=decide_eq_true c2
  try have c2b2:(9223372036854775807 < 2 + a0_0.size) = False:=eq_false (Nat.not_lt.2 c2)
  replace H:=bI H
  obtain ⟨t120,A30,H⟩:=H
  replace H:(if ((⟨#[47,47]⟩:ByteArray) ++ a0_0).size + t120.size ≤ 9223372036854775807 then (some (((⟨#[47,47]⟩:ByteArray) ++ a0_0) ++ t120)) else (none)) = some r:=H
  have A3:=Am A30
  clear A30
  by_cases c4:((⟨#[47,47]⟩:ByteArray) ++ a0_0).size + t120.size ≤ 9223372036854775807
  ·rw [if_pos c4] at H
   have c4b0:=eq_true c4
   have c4b1:=decide_eq_true c4
   try have c4b3:(9223372036854775807 < 2 + a0_0.size + t120.size) = False:=eq_false (Nat.not_lt.2 (by have h_:=c4;simp only [ByteArray.size_append] at h_;exact h_))
   try have c4b2:(9223372036854775807 < ((⟨#[47,47]⟩:ByteArray) ++ a0_0).size + t120.size) = False:=eq_false (Nat.not_lt.2 c4)
   obtain rfl:=Option.some.inj H
   go_enter Tryd.func44,Tryd.ntmps44
   try go_wp2_with (first|((with_reducible refine gate_dst (N:=1) rfl ?_);refine box_event ?hg (N:=1) ?hd (cs:=#[.string a0_0, .slice A0_1 l0_1.length c0_1, .bool a0_2, .string a0_3]) (t:=25) ?hr ?_;(case hd=>rfl);(case hg=>rfl);(case hr=>(go_simp <;> rfl));intro gb119 hg w5 hbox hb;have n0_:=Am (bT (by repeat (first|(with_reducible first|exact HB.out|apply bA|apply bN|apply bD)|exact HB.out)) hb);have n1_:=Am (hbox);have n2_:=Am ((by rw [hg];exact (bU (by repeat (first|(with_reducible first|exact HB.out|apply bA|apply bN|apply bD)|exact HB.out))):w.heap.size ≤ gb119));have n3_:=n2_;clear HB;have HB:=n0_;have BK119:=n1_;have GW119:=n2_;have GE119:=n3_;clear n0_ n1_ n2_ n3_ hb hbox hg))
   have n0_:=Am (blk_drew BK119.out)
   have n1_:=Am (below_drew1 HB.out)
   clear BK119
   clear HB
   have BK119:=n0_
   have HB:=n1_
   clear n0_ n1_
   refine start_ (n:=7) (S:=fun w'=>w'.cell? ⟨gb119,0,none⟩ = some (.string a0_0) ∧ w'.cell? ⟨gb119,1,none⟩ = some (.slice A0_1 l0_1.length c0_1) ∧ w'.cell? ⟨gb119,2,none⟩ = some (.bool a0_2) ∧ w'.cell? ⟨gb119,3,none⟩ = some (.string a0_3)) (ds:=[]) #[false,false,false,false,false,false,false] (by kernel_rfl) rfl rfl ⟨bM BK119.out 0 rfl,bM BK119.out 1 rfl,bM BK119.out 2 rfl,bM BK119.out 3 rfl⟩ (fun hHeld=>?_)
   generalize w5.drew = w6 at BK119 HB hHeld ⊢
   refine pure_ (i:=0) (N:=some 3) (v:=?_) (a':=?_) #[true,false,false,false,false,false,false] rfl rfl (by kernel_rfl) (fun _ _ _ h=>h) (Or.inl ⟨by rfl,?_⟩) ?_ ?_
   rotate_left
   ·intro w'
    go_simp
    with_reducible rfl
   rotate_left
   ·simp only [Act.put,lT,lZ,lS,i64_w,i32_w]
    rfl
   refine take_ (i:=1) (N:=some 4) (v:=?_) (a':=?_) #[true,true,false,false,false,false,false] rfl rfl (by kernel_rfl) (fun _ _ _ h=>h) (Or.inl ⟨by rfl,?_⟩) hHeld ?_ ?_
   rotate_left
   ·rintro w' ⟨s0,s1,s2,s3⟩
    go_simp
    with_reducible rfl
   rotate_left
   ·simp only [Act.put,lT,lZ,lS,i64_w,i32_w]
    rfl
   refine pure_ (i:=2) (N:=some 5) (v:=?_) (a':=?_) #[true,true,true,false,false,false,false] rfl rfl (by kernel_rfl) (fun _ _ _ h=>h) (Or.inl ⟨by rfl,?_⟩) ?_ ?_
   rotate_left
   ·intro w'
    go_simp
    with_reducible rfl
   rotate_left
   ·simp only [Act.put,lT,lZ,lS,i64_w,i32_w]
    rfl
   refine take_ (i:=3) (N:=some 6) (v:=?_) (a':=?_) #[true,true,true,true,false,false,false] rfl rfl (by kernel_rfl) (fun _ _ _ h=>h) (Or.inl ⟨by rfl,?_⟩) hHeld ?_ ?_
   rotate_left
   ·rintro w' ⟨s0,s1,s2,s3⟩
    go_simp
    with_reducible rfl
   rotate_left
   ·simp only [Act.put,lT,lZ,lS,i64_w,i32_w]
    rfl
   refine one_ (i:=4) (N:=some 7) #[true,true,true,true,true,false,false] rfl rfl (by kernel_rfl) (by decide) (fun K hK=>?_)
   refine goes_ Tryd.func71 (by kernel_rfl) rfl #[.agg #[.string a0_0, .slice A0_1 l0_1.length c0_1, .bool a0_2, .string a0_3]] (by rfl) rfl rfl (by (try simp only [List.map_toArray,List.map_cons,List.map_nil]);first|done|rfl|(simp only [List.length_drop,List.length_take];rfl)) ?_
   with_reducible refine (spec_l1Path.calls k a0_0 _ _ l0_1 a0_2 a0_3 t120 _ ?side1 ?side2 A3.out).mono ?_
   (case side1=>repeat (first|exact (Kd.C_below HR0_1.out HB.out)|(with_reducible refine bC ?_)))
   (case side2=>exact HC0_1.out)
   rintro e w7 ⟨rfl,hb⟩
   refine ⟨_,rfl,?_⟩
   have n0_:=Am (blk_below (bB BK119.out) hb)
   have n1_:=Am (bT (by repeat (first|(with_reducible first|exact HB.out|apply bA|apply bN|apply bD|refine bS ?_ GE119.out)|exact HB.out)) hb)
   clear BK119
   clear HB
   have BK119:=n0_
   have HB:=n1_
   clear n0_ n1_
   (try clear hb)
   (try clear hb2)
   (try clear hk)
   (try clear hi)
   refine hK.out _ _ ⟨bM BK119.out 0 rfl,bM BK119.out 1 rfl,bM BK119.out 2 rfl,bM BK119.out 3 rfl⟩ (fun hHeld=>?_)
   clear hK K
   refine norm_ (a':=?_) ?_ ?_
   rotate_left
   ·show Act.put _ (some 7) _ = _
    simp only [Act.put,lT,lZ,lS,i64_w,i32_w]
    rfl
   refine pure_ (i:=5) (N:=some 8) (v:=?_) (a':=?_) #[true,true,true,true,true,true,false] rfl rfl (by kernel_rfl) (fun _ _ _ h=>h) (Or.inl ⟨by rfl,?_⟩) ?_ ?_
   rotate_left
   ·intro w'
    go_simp
    with_reducible rfl
   rotate_left
   ·simp only [Act.put,lT,lZ,lS,i64_w,i32_w]
    rfl
   refine pure_ (i:=6) (N:=some 2) (v:=?_) (a':=?_) #[true,true,true,true,true,true,true] rfl rfl (by kernel_rfl) (fun _ _ _ h=>h) (Or.inl ⟨by rfl,?_⟩) ?_ ?_
   rotate_left
   ·intro w'
    go_simp
    with_reducible rfl
   rotate_left
   ·simp only [Act.put,lT,lZ,lS,i64_w,i32_w]
    rfl
   refine done_ (by kernel_rfl) ?_
   try go_wp2
   go_ret
   exact ⟨by first|rfl|(simp <;> rfl)|(simp [*] <;> rfl),by repeat (first|(with_reducible first|exact HB.out|apply bA|apply bN|apply bD|refine bS ?_ GE119.out)|exact HB.out)⟩
  ·rw [if_neg c4] at H
   exact absurd H (by simp)
 ·rw [if_neg c2] at H
  exact absurd H (by simp)

/-! ### spec_AddrOk: function 15 -/
mutual
def spec_AddrOk.j0:Nat → Bool → ByteArray → List ByteArray → Bool → ByteArray → Option (Bool)
 | 0,_,_,_,_,_=>none
 | k + 1,x29,x122000,x122001,x122002,x122003=>if x29 = true then (some false) else (spec_AddrOk.l0 k 0 x122000 x122001 x122002 x122003)
def spec_AddrOk.l0:Nat → Int → ByteArray → List ByteArray → Bool → ByteArray → Option (Bool)
 | 0,_,_,_,_,_=>none
 | k + 1,x3,x122000,x122001,x122002,x122003=>if x3 < (x122001.length:Int) then (if 0 ≤ x3 then ((spec_l1Norm.f k (rdOf ByteArray.empty x122001 x3)).bind fun t125=>(if t125 = true then (if (rdOf ByteArray.empty x122001 x3).toList = ([]:List UInt8) then (some false) else (if (rdOf ByteArray.empty x122001 x3).toList = ([46]:List UInt8) then (some false) else (if (rdOf ByteArray.empty x122001 x3).toList = ([46,46]:List UInt8) then (some false) else (spec_AddrOk.l0 k (wrap64 (x3 + 1)) x122000 x122001 x122002 x122003)))) else (some false))) else (none)) else ((spec_l1Text.f k x122000 x122001 x122002 x122003).bind fun t129=>(some (decide ((t129.size:Int) ≤ 60))))
end
def spec_AddrOk.f (k:Nat) (a0_0:ByteArray) (l0_1:List ByteArray) (a0_2:Bool) (a0_3:ByteArray):Option (Bool):=(spec_l1House.f k a0_0).bind fun t122=>(if t122 = true then (if (l0_1.length:Int) > 5 then (spec_AddrOk.j0 k true a0_0 l0_1 a0_2 a0_3) else ((spec_l1Norm.f k a0_3).bind fun t123=>(if t123 = true then (if a0_2 = true then (spec_AddrOk.j0 k false a0_0 l0_1 a0_2 a0_3) else (spec_AddrOk.j0 k (a0_3.toList != ([]:List UInt8)) a0_0 l0_1 a0_2 a0_3)) else (spec_AddrOk.j0 k true a0_0 l0_1 a0_2 a0_3)))) else (spec_AddrOk.j0 k true a0_0 l0_1 a0_2 a0_3))
theorem spec_AddrOk.mono_l:∀ k,(∀ y0 y1 y2 y3 y4,LeO (spec_AddrOk.j0 k y0 y1 y2 y3 y4) (spec_AddrOk.j0 (k + 1) y0 y1 y2 y3 y4)) ∧ (∀ y0 y1 y2 y3 y4,LeO (spec_AddrOk.l0 k y0 y1 y2 y3 y4) (spec_AddrOk.l0 (k + 1) y0 y1 y2 y3 y4))
 | 0=>⟨fun _ _ _ _ _ r h=>by simp [spec_AddrOk.j0] at h,fun _ _ _ _ _ r h=>by simp [spec_AddrOk.l0] at h⟩
 | k + 1=>by
  obtain ⟨ih0,ih1⟩:=spec_AddrOk.mono_l k
  refine ⟨?_,?_⟩
  ·intro y0 y1 y2 y3 y4
   unfold spec_AddrOk.j0
   repeat' first
   | (with_reducible apply ih0)
   | (with_reducible apply ih1)
   | (with_reducible apply spec_l1House.mono)
   | (with_reducible apply spec_l1Norm.mono)
   | (with_reducible apply spec_l1Text.mono)
   | (with_reducible exact LeO.refl _)
   | (with_reducible exact LeO.none _)
   | (with_reducible refine LeO.ite ?_ ?_)
   | (with_reducible refine LeO.bind ?_ (fun _=>?_))








  ·intro y0 y1 y2 y3 y4
   unfold spec_AddrOk.l0
   repeat' first
   | (with_reducible apply ih0)
   | (with_reducible apply ih1)
   | (with_reducible apply spec_l1House.mono)
   | (with_reducible apply spec_l1Norm.mono)
   | (with_reducible apply spec_l1Text.mono)
   | (with_reducible exact LeO.refl _)
   | (with_reducible exact LeO.none _)
   | (with_reducible refine LeO.ite ?_ ?_)
   | (with_reducible refine LeO.bind ?_ (fun _=>?_))








theorem spec_AddrOk.mono:∀ a0 a1 a2 a3 k,LeO (spec_AddrOk.f k a0 a1 a2 a3) (spec_AddrOk.f (k + 1) a0 a1 a2 a3):=by
 intro a0 a1 a2 a3 k
 obtain ⟨ih0,ih1⟩:=spec_AddrOk.mono_l k
 unfold spec_AddrOk.f
 repeat' first
   | (with_reducible apply ih0)
   | (with_reducible apply ih1)
   | (with_reducible apply spec_l1House.mono)
   | (with_reducible apply spec_l1Norm.mono)
   | (with_reducible apply spec_l1Text.mono)
   | (with_reducible exact LeO.refl _)
   | (with_reducible exact LeO.none _)
   | (with_reducible refine LeO.ite ?_ ?_)
   | (with_reducible refine LeO.bind ?_ (fun _=>?_))








theorem spec_AddrOk.calls (k:Nat) (a0_0:ByteArray) (A0_1:Option Addr) (c0_1:Nat) (l0_1:List ByteArray) (a0_2:Bool) (a0_3:ByteArray) (r:Bool) (w:World) (hr0_1:Kd.C Kd.string w A0_1 l0_1.length l0_1) (hc0_1:l0_1.length ≤ c0_1) (h:spec_AddrOk.f k a0_0 l0_1 a0_2 a0_3 = some r) :
  Calls Tryd.prog 15 #[.agg #[.string a0_0, .slice A0_1 l0_1.length c0_1, .bool a0_2, .string a0_3]] w fun e w'=>e = .returned (.bool r) ∧ Below w.heap.size w w':=by
 have hu25:=Tryd.underlying25
 have HR0_1:=Am hr0_1
 have HC0_1:=Am hc0_1
 clear hr0_1 hc0_1
 have HB:=Am (Below.refl w.heap.size w)
 have H:((spec_l1House.f k a0_0).bind fun t122=>(if t122 = true then (if (l0_1.length:Int) > 5 then (spec_AddrOk.j0 k true a0_0 l0_1 a0_2 a0_3) else ((spec_l1Norm.f k a0_3).bind fun t123=>(if t123 = true then (if a0_2 = true then (spec_AddrOk.j0 k false a0_0 l0_1 a0_2 a0_3) else (spec_AddrOk.j0 k (a0_3.toList != ([]:List UInt8)) a0_0 l0_1 a0_2 a0_3)) else (spec_AddrOk.j0 k true a0_0 l0_1 a0_2 a0_3)))) else (spec_AddrOk.j0 k true a0_0 l0_1 a0_2 a0_3))) = some r:=h
 clear h
 have HC2:=Am H
 clear H
 go_enter Tryd.func15,Tryd.ntmps15
 go_upto_region 1 with (first|((with_reducible refine gate_dst (N:=1) rfl ?_);(try (refine gate_guard (by rfl) ?_;dsimp only));refine box_event ?hg (N:=1) ?hd (cs:=#[.string a0_0, .slice A0_1 l0_1.length c0_1, .bool a0_2, .string a0_3]) (t:=25) ?hr ?_;(case hd=>rfl);(case hg=>rfl);(case hr=>(go_simp <;> rfl));intro gb121 hg w3 hbox hb;have n0_:=Am (bT (by repeat (first|(with_reducible first|exact HB.out|apply bA|apply bN|apply bD)|exact HB.out)) hb);have n1_:=Am (hbox);have n2_:=Am ((by rw [hg];exact (bU (by repeat (first|(with_reducible first|exact HB.out|apply bA|apply bN|apply bD)|exact HB.out))):w.heap.size ≤ gb121));have n3_:=n2_;clear HB;have HB:=n0_;have BK121:=n1_;have GW121:=n2_;have GE121:=n3_;clear n0_ n1_ n2_ n3_ hb hbox hg))
 (try simp only [Act.put,lT,lZ,lS])
 go_cut [29] (fun v29 wc=>∃ (kq:Nat) (x29_1:Bool),v29 = .bool x29_1 ∧ Aside0 (spec_AddrOk.j0 kq x29_1 a0_0 l0_1 a0_2 a0_3 = some r) ∧ Aside0 (kq ≤ k) ∧ Aside0 (wc.heap[gb121]? = some (.cells #[.string a0_0,(.slice A0_1 l0_1.length c0_1), .bool a0_2, .string a0_3] 25 (0,0))) ∧ Aside0 (Below w.heap.size w wc))
 case first =>
  have H:=HC2.out
  clear HC2
  replace H:=bI H
  obtain ⟨t122,A40,H⟩:=H
  replace H:(if t122 = true then (if (l0_1.length:Int) > 5 then (spec_AddrOk.j0 k true a0_0 l0_1 a0_2 a0_3) else ((spec_l1Norm.f k a0_3).bind fun t123=>(if t123 = true then (if a0_2 = true then (spec_AddrOk.j0 k false a0_0 l0_1 a0_2 a0_3) else (spec_AddrOk.j0 k (a0_3.toList != ([]:List UInt8)) a0_0 l0_1 a0_2 a0_3)) else (spec_AddrOk.j0 k true a0_0 l0_1 a0_2 a0_3)))) else (spec_AddrOk.j0 k true a0_0 l0_1 a0_2 a0_3)) = some r:=H
  have A4:=Am A40
  clear A40
  by_cases c5:t122 = true
  ·subst c5
   have H1:(if (l0_1.length:Int) > 5 then (spec_AddrOk.j0 k true a0_0 l0_1 a0_2 a0_3) else ((spec_l1Norm.f k a0_3).bind fun t123=>(if t123 = true then (if a0_2 = true then (spec_AddrOk.j0 k false a0_0 l0_1 a0_2 a0_3) else (spec_AddrOk.j0 k (a0_3.toList != ([]:List UInt8)) a0_0 l0_1 a0_2 a0_3)) else (spec_AddrOk.j0 k true a0_0 l0_1 a0_2 a0_3)))) = some r:=by rw [if_pos rfl] at H;exact H
   clear H
   have H:=H1
   clear H1
   by_cases c6:(l0_1.length:Int) > 5
   ·rw [if_pos c6] at H
    have c6b0:decide (5 < (l0_1.length:Int)) = true:=decide_eq_true c6
    have c6b1:decide (5 < l0_1.length) = true:=decide_eq_true (by omega)
    clear c6
    (first|rw [c6b0]|(simp only [i64_w,i32_w];rw [c6b0])|skip)
    have H':=Am H
    clear H
    obtain ⟨hcz7_0,hcz7_1,hcz7_2,hcz7_3,hfz7_0,hfz7_1,hfz7_2,hfz7_3⟩:=bX BK121.out







    go_wp2_with (first|((with_reducible refine gate_callee (f:=42) rfl ?_);refine goesL_ (some 6) rfl rfl Tryd.func42 (by kernel_rfl) rfl #[.string a0_0] rfl (aE1 rfl) ?_;(with_reducible refine (spec_l1House.calls k a0_0 true _ A4.out).mono ?_);rintro e w' ⟨rfl,⟨nd,rfl⟩⟩;refine ⟨_,rfl,?_⟩))
    go_meet
    case rel=>exact ⟨_,(true),(by first|rfl|(simp;done)|(simp only [i64_w,i32_w] <;> rfl)|(simp [*];done)|(simp [emp_bne,emp_beq];done)),H',⟨by first|omega|exact Nat.le_refl _⟩,⟨by refine bB ?_;exact BK121.out⟩,⟨by repeat (first|(with_reducible first|exact HB.out|apply bA|apply bN|apply bD|refine bS ?_ GE121.out)|exact HB.out)⟩⟩
   ·rw [if_neg c6] at H
    have c6b0:decide (5 < (l0_1.length:Int)) = false:=decide_eq_false c6
    have c6b1:decide (5 < l0_1.length) = false:=decide_eq_false (by omega)
    clear c6
    (first|rw [c6b0]|(simp only [i64_w,i32_w];rw [c6b0])|skip)
    replace H:=bI H
    obtain ⟨t123,A80,H⟩:=H
    replace H:(if t123 = true then (if a0_2 = true then (spec_AddrOk.j0 k false a0_0 l0_1 a0_2 a0_3) else (spec_AddrOk.j0 k (a0_3.toList != ([]:List UInt8)) a0_0 l0_1 a0_2 a0_3)) else (spec_AddrOk.j0 k true a0_0 l0_1 a0_2 a0_3)) = some r:=H
    have A8:=Am A80
    clear A80
    by_cases c9:t123 = true
    ·subst c9
     have H1:(if a0_2 = true then (spec_AddrOk.j0 k false a0_0 l0_1 a0_2 a0_3) else (spec_AddrOk.j0 k (a0_3.toList != ([]:List UInt8)) a0_0 l0_1 a0_2 a0_3)) = some r:=by rw [if_pos rfl] at H;exact H
     clear H
     have H:=H1
     clear H1
     by_cases c10:a0_2 = true
     ·subst c10
      have H1:(spec_AddrOk.j0 k false a0_0 l0_1 true a0_3) = some r:=by rw [if_pos rfl] at H;exact H
      clear H
      have H:=H1
      clear H1
      have H':=Am H
      clear H
      obtain ⟨hcz11_0,hcz11_1,hcz11_2,hcz11_3,hfz11_0,hfz11_1,hfz11_2,hfz11_3⟩:=bX BK121.out







      go_wp2_with (first|((with_reducible refine gate_callee (f:=42) rfl ?_);refine goesL_ (some 6) rfl rfl Tryd.func42 (by kernel_rfl) rfl #[.string a0_0] rfl (aE1 rfl) ?_;(with_reducible refine (spec_l1House.calls k a0_0 true _ A4.out).mono ?_);rintro e w' ⟨rfl,⟨nd,rfl⟩⟩;refine ⟨_,rfl,?_⟩)|(go_at_call 43;(with_reducible refine (spec_l1Norm.calls k a0_3 true _ A8.out).mono ?_);rintro e w12 ⟨rfl,hb⟩;have n0_:=Am (blk_below (bB BK121.out) hb);have n1_:=Am (bT (by repeat (first|(with_reducible first|exact HB.out|apply bA|apply bN|apply bD|refine bS ?_ GE121.out)|exact HB.out)) hb);clear BK121 HB;have BK121:=n0_;have HB:=n1_;clear n0_ n1_;(try clear hb);obtain ⟨hcz13_0,hcz13_1,hcz13_2,hcz13_3,hfz13_0,hfz13_1,hfz13_2,hfz13_3⟩:=bX BK121.out))
      go_meet
      case rel=>exact ⟨_,(false),(by first|rfl|(simp;done)|(simp only [i64_w,i32_w] <;> rfl)|(simp [*];done)|(simp [emp_bne,emp_beq];done)),H',⟨by first|omega|exact Nat.le_refl _⟩,⟨by refine bB ?_;exact BK121.out⟩,⟨by repeat (first|(with_reducible first|exact HB.out|apply bA|apply bN|apply bD|refine bS ?_ GE121.out)|exact HB.out)⟩⟩
     ·replace c10:=Bool.eq_false_iff.mpr c10
      subst c10
      have H1:(spec_AddrOk.j0 k (a0_3.toList != ([]:List UInt8)) a0_0 l0_1 false a0_3) = some r:=by rw [if_neg (show ¬ (false = true) by decide)] at H;exact H
      clear H
      have H:=H1
      clear H1
      have H':=Am H
      clear H
      obtain ⟨hcz14_0,hcz14_1,hcz14_2,hcz14_3,hfz14_0,hfz14_1,hfz14_2,hfz14_3⟩:=bX BK121.out







      go_wp2_with (first|((with_reducible refine gate_callee (f:=42) rfl ?_);refine goesL_ (some 6) rfl rfl Tryd.func42 (by kernel_rfl) rfl #[.string a0_0] rfl (aE1 rfl) ?_;(with_reducible refine (spec_l1House.calls k a0_0 true _ A4.out).mono ?_);rintro e w' ⟨rfl,⟨nd,rfl⟩⟩;refine ⟨_,rfl,?_⟩)|(go_at_call 43;(with_reducible refine (spec_l1Norm.calls k a0_3 true _ A8.out).mono ?_);rintro e w15 ⟨rfl,hb⟩;have n0_:=Am (blk_below (bB BK121.out) hb);have n1_:=Am (bT (by repeat (first|(with_reducible first|exact HB.out|apply bA|apply bN|apply bD|refine bS ?_ GE121.out)|exact HB.out)) hb);clear BK121 HB;have BK121:=n0_;have HB:=n1_;clear n0_ n1_;(try clear hb);obtain ⟨hcz16_0,hcz16_1,hcz16_2,hcz16_3,hfz16_0,hfz16_1,hfz16_2,hfz16_3⟩:=bX BK121.out))
      go_meet
      case rel=>exact ⟨_,((a0_3.toList != ([]:List UInt8))),(by first|rfl|(simp;done)|(simp only [i64_w,i32_w] <;> rfl)|(simp [*];done)|(simp [emp_bne,emp_beq];done)),H',⟨by first|omega|exact Nat.le_refl _⟩,⟨by refine bB ?_;exact BK121.out⟩,⟨by repeat (first|(with_reducible first|exact HB.out|apply bA|apply bN|apply bD|refine bS ?_ GE121.out)|exact HB.out)⟩⟩
    ·replace c9:=Bool.eq_false_iff.mpr c9
     subst c9
     have H1:(spec_AddrOk.j0 k true a0_0 l0_1 a0_2 a0_3) = some r:=by rw [if_neg (show ¬ (false = true) by decide)] at H;exact H
     clear H
     have H:=H1
     clear H1
     have H':=Am H
     clear H
     obtain ⟨hcz17_0,hcz17_1,hcz17_2,hcz17_3,hfz17_0,hfz17_1,hfz17_2,hfz17_3⟩:=bX BK121.out







     go_wp2_with (first|((with_reducible refine gate_callee (f:=42) rfl ?_);refine goesL_ (some 6) rfl rfl Tryd.func42 (by kernel_rfl) rfl #[.string a0_0] rfl (aE1 rfl) ?_;(with_reducible refine (spec_l1House.calls k a0_0 true _ A4.out).mono ?_);rintro e w' ⟨rfl,⟨nd,rfl⟩⟩;refine ⟨_,rfl,?_⟩)|(go_at_call 43;(with_reducible refine (spec_l1Norm.calls k a0_3 false _ A8.out).mono ?_);rintro e w18 ⟨rfl,hb⟩;have n0_:=Am (blk_below (bB BK121.out) hb);have n1_:=Am (bT (by repeat (first|(with_reducible first|exact HB.out|apply bA|apply bN|apply bD|refine bS ?_ GE121.out)|exact HB.out)) hb);clear BK121 HB;have BK121:=n0_;have HB:=n1_;clear n0_ n1_;(try clear hb)))
     go_meet
     case rel=>exact ⟨_,(true),(by first|rfl|(simp;done)|(simp only [i64_w,i32_w] <;> rfl)|(simp [*];done)|(simp [emp_bne,emp_beq];done)),H',⟨by first|omega|exact Nat.le_refl _⟩,⟨by refine bB ?_;exact BK121.out⟩,⟨by repeat (first|(with_reducible first|exact HB.out|apply bA|apply bN|apply bD|refine bS ?_ GE121.out)|exact HB.out)⟩⟩
  ·replace c5:=Bool.eq_false_iff.mpr c5
   subst c5
   have H1:(spec_AddrOk.j0 k true a0_0 l0_1 a0_2 a0_3) = some r:=by rw [if_neg (show ¬ (false = true) by decide)] at H;exact H
   clear H
   have H:=H1
   clear H1
   have H':=Am H
   clear H
   obtain ⟨hcz19_0,hcz19_1,hcz19_2,hcz19_3,hfz19_0,hfz19_1,hfz19_2,hfz19_3⟩:=bX BK121.out







   go_wp2_with (first|((with_reducible refine gate_callee (f:=42) rfl ?_);refine goesL_ (some 6) rfl rfl Tryd.func42 (by kernel_rfl) rfl #[.string a0_0] rfl (aE1 rfl) ?_;(with_reducible refine (spec_l1House.calls k a0_0 false _ A4.out).mono ?_);rintro e w' ⟨rfl,⟨nd,rfl⟩⟩;refine ⟨_,rfl,?_⟩))
   go_meet
   case rel=>exact ⟨_,(true),(by first|rfl|(simp;done)|(simp only [i64_w,i32_w] <;> rfl)|(simp [*];done)|(simp [emp_bne,emp_beq];done)),H',⟨by first|omega|exact Nat.le_refl _⟩,⟨by refine bB ?_;exact BK121.out⟩,⟨by repeat (first|(with_reducible first|exact HB.out|apply bA|apply bN|apply bD|refine bS ?_ GE121.out)|exact HB.out)⟩⟩
 case rest =>
  clear HC2
  try clear c1
  try clear p2
  try clear c4
  try clear c5
  try clear c6
  try clear c6b0
  try clear c6b1
  try clear c9
  try clear c10
  try clear c15
  try clear hcz11_0
  try clear hcz11_1
  try clear hcz11_2
  try clear hcz11_3
  try clear hcz13_0
  try clear hcz13_1
  try clear hcz13_2
  try clear hcz13_3
  try clear hcz14_0
  try clear hcz14_1
  try clear hcz14_2
  try clear hcz14_3
  try clear hcz16_0
  try clear hcz16_1
  try clear hcz16_2
  try clear hcz16_3
  try clear hcz17_0
  try clear hcz17_1
  try clear hcz17_2
  try clear hcz17_3
  try clear hcz19_0
  try clear hcz19_1
  try clear hcz19_2
  try clear hcz19_3
  try clear hcz7_0
  try clear hcz7_1
  try clear hcz7_2
  try clear hcz7_3
  try clear hfz11_0
  try clear hfz11_1
  try clear hfz11_2
  try clear hfz11_3
  try clear hfz13_0
  try clear hfz13_1
  try clear hfz13_2
  try clear hfz13_3
  try clear hfz14_0
  try clear hfz14_1
  try clear hfz14_2
  try clear hfz14_3
  try clear hfz16_0
  try clear hfz16_1
  try clear hfz16_2
  try clear hfz16_3
  try clear hfz17_0
  try clear hfz17_1
  try clear hfz17_2
  try clear hfz17_3
  try clear hfz19_0
  try clear hfz19_1
  try clear hfz19_2
  try clear hfz19_3
  try clear hfz7_0
  try clear hfz7_1
  try clear hfz7_2
  try clear hfz7_3
  obtain ⟨kq,x29_1,rfl,HA,HJ1,BK121,HB⟩:=hcut
  cases kq with
  | zero=>exact absurd HA.out (by simp [spec_AddrOk.j0])
  | succ kj1 =>
   have H:=HA.out
   clear HA
   simp only [spec_AddrOk.j0] at H
   by_cases c20:x29_1 = true
   ·subst c20
    have H1:(some false) = some r:=by rw [if_pos rfl] at H;exact H
    clear H
    have H:=H1
    clear H1
    obtain rfl:=Option.some.inj H
    go_wp2
    go_ret
    exact ⟨by first|rfl|(simp <;> rfl)|(simp [*] <;> rfl),by repeat (first|(with_reducible first|exact HB.out|apply bA|apply bN|apply bD|refine bS ?_ GE121.out)|exact HB.out)⟩
   ·replace c20:=Bool.eq_false_iff.mpr c20
    subst c20
    have H1:(spec_AddrOk.l0 kj1 0 a0_0 l0_1 a0_2 a0_3) = some r:=by rw [if_neg (show ¬ (false = true) by decide)] at H;exact H
    clear H
    have H:=H1
    clear H1
    have H':=Am H
    clear H
    go_wp2
    go_loopg [3] kj1 (fun kq v3 w'=>∃ (x3_2:Int),v3 = .int .i64 x3_2 ∧ Aside0 (spec_AddrOk.l0 kq x3_2 a0_0 l0_1 a0_2 a0_3 = some r) ∧ Aside0 (kq ≤ kj1) ∧ Aside0 (w'.heap[gb121]? = some (.cells #[.string a0_0,(.slice A0_1 l0_1.length c0_1), .bool a0_2, .string a0_3] 25 (0,0))) ∧ Aside0 (Below w.heap.size w w'))
    case atStart=>exact ⟨(0),(by first|rfl|(simp;done)|(simp only [i64_w,i32_w] <;> rfl)|(simp [*];done)|(simp [emp_bne,emp_beq];done)),H',⟨Nat.le_refl _⟩,⟨by refine bB ?_;exact BK121.out⟩,⟨by repeat (first|(with_reducible first|exact HB.out|apply bA|apply bN|apply bD|refine bS ?_ GE121.out)|exact HB.out)⟩⟩
    case round =>
     clear H'
     try clear c1
     try clear c2
     try clear p2
     try clear c4
     try clear c5
     try clear c6
     try clear c6b0
     try clear c6b1
     try clear c9
     try clear c10
     try clear c15
     try clear c20
     try clear hcz11_0
     try clear hcz11_1
     try clear hcz11_2
     try clear hcz11_3
     try clear hcz13_0
     try clear hcz13_1
     try clear hcz13_2
     try clear hcz13_3
     try clear hcz14_0
     try clear hcz14_1
     try clear hcz14_2
     try clear hcz14_3
     try clear hcz16_0
     try clear hcz16_1
     try clear hcz16_2
     try clear hcz16_3
     try clear hcz17_0
     try clear hcz17_1
     try clear hcz17_2
     try clear hcz17_3
     try clear hcz19_0
     try clear hcz19_1
     try clear hcz19_2
     try clear hcz19_3
     try clear hcz7_0
     try clear hcz7_1
     try clear hcz7_2
     try clear hcz7_3
     try clear hfz11_0
     try clear hfz11_1
     try clear hfz11_2
     try clear hfz11_3
     try clear hfz13_0
     try clear hfz13_1
     try clear hfz13_2
     try clear hfz13_3
     try clear hfz14_0
     try clear hfz14_1
     try clear hfz14_2
     try clear hfz14_3
     try clear hfz16_0
     try clear hfz16_1
     try clear hfz16_2
     try clear hfz16_3
     try clear hfz17_0
     try clear hfz17_1
     try clear hfz17_2
     try clear hfz17_3
     try clear hfz19_0
     try clear hfz19_1
     try clear hfz19_2
     try clear hfz19_3
     try clear hfz7_0
     try clear hfz7_1
     try clear hfz7_2
     try clear hfz7_3
     try clear p2
     obtain ⟨x3_2,rfl,HA,HK2,BK121,HB⟩:=hrel
     cases gk with
     | zero=>exact absurd HA.out (by simp [spec_AddrOk.l0])
     | succ k2 =>
      have H:=HA.out
      clear HA
      simp only [spec_AddrOk.l0] at H
      by_cases c21:x3_2 < (l0_1.length:Int)
      ·rw [if_pos c21] at H
       have c21b0:decide (x3_2 < (l0_1.length:Int)) = true:=decide_eq_true c21
       clear c21
       by_cases c22:0 ≤ x3_2
       ·rw [if_pos c22] at H
        have c22b0:decide (0 ≤ x3_2) = true:=decide_eq_true c22
        clear c22
        replace H:=bI H
        obtain ⟨t125,A230,H⟩:=H
        replace H:(if t125 = true then (if (rdOf ByteArray.empty l0_1 x3_2).toList = ([]:List UInt8) then (some false) else (if (rdOf ByteArray.empty l0_1 x3_2).toList = ([46]:List UInt8) then (some false) else (if (rdOf ByteArray.empty l0_1 x3_2).toList = ([46,46]:List UInt8) then (some false) else (spec_AddrOk.l0 k2 (wrap64 (x3_2 + 1)) a0_0 l0_1 a0_2 a0_3)))) else (some false)) = some r:=H
        have A23:=Am A230
        clear A230
        by_cases c24:t125 = true
        ·subst c24
         have H1:(if (rdOf ByteArray.empty l0_1 x3_2).toList = ([]:List UInt8) then (some false) else (if (rdOf ByteArray.empty l0_1 x3_2).toList = ([46]:List UInt8) then (some false) else (if (rdOf ByteArray.empty l0_1 x3_2).toList = ([46,46]:List UInt8) then (some false) else (spec_AddrOk.l0 k2 (wrap64 (x3_2 + 1)) a0_0 l0_1 a0_2 a0_3)))) = some r:=by rw [if_pos rfl] at H;exact H
         clear H
         have H:=H1
         clear H1
         by_cases c25:(rdOf ByteArray.empty l0_1 x3_2).toList = ([]:List UInt8)
         ·rw [if_pos c25] at H
          (try (have c25b0:(rdOf ByteArray.empty l0_1 x3_2).toList.isEmpty = true:=by simpa using c25))
          have c25b1:((rdOf ByteArray.empty l0_1 x3_2).toList == ([]:List UInt8)) = true:=beq_iff_eq.mpr c25
          have c25b2:((rdOf ByteArray.empty l0_1 x3_2).toList != ([]:List UInt8)) = false:=bne_eq_false_iff_eq.mpr c25
          clear c25
          obtain rfl:=Option.some.inj H
          obtain ⟨hcz26_0,hcz26_1,hcz26_2,hcz26_3,hfz26_0,hfz26_1,hfz26_2,hfz26_3⟩:=bX BK121.out







          have p124:0 ≤ (x3_2:Int):=oD (by assumption)
          have q124:x3_2 < (l0_1.length:Int):=oD (by assumption)
          obtain ⟨ad124,e124,hx124_0⟩:=Kd.at_string HR0_1.out x3_2 p124 q124
          cases e124
          replace hx124_0:=(HB.out.cell (World.block_lt_of_cell? w _ hx124_0)).trans hx124_0
          replace p124:=eq_true p124
          replace q124:=eq_true q124
          go_wp2_with (first|((with_reducible refine gate_callee (f:=43) rfl ?_);refine goesL_ (some 42) rfl rfl Tryd.func43 (by kernel_rfl) rfl #[.string (rdOf ByteArray.empty l0_1 x3_2)] rfl (aE1 rfl) ?_;(with_reducible refine (spec_l1Norm.calls k2 (rdOf ByteArray.empty l0_1 x3_2) true _ A23.out).mono ?_);rintro e w27 ⟨rfl,hb⟩;refine ⟨_,rfl,?_⟩;have n0_:=Am (blk_below (bB BK121.out) hb);have n1_:=Am (bT (by repeat (first|(with_reducible first|exact HB.out|apply bA|apply bN|apply bD|refine bS ?_ GE121.out)|exact HB.out)) hb);clear BK121 HB;have BK121:=n0_;have HB:=n1_;clear n0_ n1_;(try clear hb);obtain ⟨hcz28_0,hcz28_1,hcz28_2,hcz28_3,hfz28_0,hfz28_1,hfz28_2,hfz28_3⟩:=bX BK121.out;have p126:0 ≤ (x3_2:Int):=oD (by assumption);have q126:x3_2 < (l0_1.length:Int):=oD (by assumption);obtain ⟨ad126,e126,hx126_0⟩:=Kd.at_string HR0_1.out x3_2 p126 q126;obtain rfl:ad124 = ad126:=(by injection e126);replace hx126_0:=(HB.out.cell (World.block_lt_of_cell? w _ hx126_0)).trans hx126_0;replace p126:=eq_true p126;replace q126:=eq_true q126))
          go_ret
          exact ⟨by first|rfl|(simp <;> rfl)|(simp [*] <;> rfl),by repeat (first|(with_reducible first|exact HB.out|apply bA|apply bN|apply bD|refine bS ?_ GE121.out)|exact HB.out)⟩
         ·rw [if_neg c25] at H
          (try (have c25b0:(rdOf ByteArray.empty l0_1 x3_2).toList.isEmpty = false:=by simpa using c25))
          have c25b1:((rdOf ByteArray.empty l0_1 x3_2).toList == ([]:List UInt8)) = false:=beq_eq_false_iff_ne.mpr c25
          have c25b2:((rdOf ByteArray.empty l0_1 x3_2).toList != ([]:List UInt8)) = true:=bne_iff_ne.mpr c25
          by_cases c29:(rdOf ByteArray.empty l0_1 x3_2).toList = ([46]:List UInt8)
          ·rw [if_pos c29] at H
           have c29b0:((rdOf ByteArray.empty l0_1 x3_2).toList == ([46]:List UInt8)) = true:=beq_iff_eq.mpr c29
           have c29b1:((rdOf ByteArray.empty l0_1 x3_2).toList != ([46]:List UInt8)) = false:=bne_eq_false_iff_eq.mpr c29
           clear c29
           obtain rfl:=Option.some.inj H
           obtain ⟨hcz30_0,hcz30_1,hcz30_2,hcz30_3,hfz30_0,hfz30_1,hfz30_2,hfz30_3⟩:=bX BK121.out







           have p124:0 ≤ (x3_2:Int):=oD (by assumption)
           have q124:x3_2 < (l0_1.length:Int):=oD (by assumption)
           obtain ⟨ad124,e124,hx124_0⟩:=Kd.at_string HR0_1.out x3_2 p124 q124
           cases e124
           replace hx124_0:=(HB.out.cell (World.block_lt_of_cell? w _ hx124_0)).trans hx124_0
           replace p124:=eq_true p124
           replace q124:=eq_true q124
           go_wp2_with (first|((with_reducible refine gate_callee (f:=43) rfl ?_);refine goesL_ (some 42) rfl rfl Tryd.func43 (by kernel_rfl) rfl #[.string (rdOf ByteArray.empty l0_1 x3_2)] rfl (aE1 rfl) ?_;(with_reducible refine (spec_l1Norm.calls k2 (rdOf ByteArray.empty l0_1 x3_2) true _ A23.out).mono ?_);rintro e w31 ⟨rfl,hb⟩;refine ⟨_,rfl,?_⟩;have n0_:=Am (blk_below (bB BK121.out) hb);have n1_:=Am (bT (by repeat (first|(with_reducible first|exact HB.out|apply bA|apply bN|apply bD|refine bS ?_ GE121.out)|exact HB.out)) hb);clear BK121 HB;have BK121:=n0_;have HB:=n1_;clear n0_ n1_;(try clear hb);obtain ⟨hcz32_0,hcz32_1,hcz32_2,hcz32_3,hfz32_0,hfz32_1,hfz32_2,hfz32_3⟩:=bX BK121.out;have p126:0 ≤ (x3_2:Int):=oD (by assumption);have q126:x3_2 < (l0_1.length:Int):=oD (by assumption);obtain ⟨ad126,e126,hx126_0⟩:=Kd.at_string HR0_1.out x3_2 p126 q126;obtain rfl:ad124 = ad126:=(by injection e126);replace hx126_0:=(HB.out.cell (World.block_lt_of_cell? w _ hx126_0)).trans hx126_0;replace p126:=eq_true p126;replace q126:=eq_true q126;have p127:0 ≤ (x3_2:Int):=oD (by assumption);have q127:x3_2 < (l0_1.length:Int):=oD (by assumption);obtain ⟨ad127,e127,hx127_0⟩:=Kd.at_string HR0_1.out x3_2 p127 q127;obtain rfl:ad124 = ad127:=(by injection e127);replace hx127_0:=(HB.out.cell (World.block_lt_of_cell? w _ hx127_0)).trans hx127_0;replace p127:=eq_true p127;replace q127:=eq_true q127))
           go_ret
           exact ⟨by first|rfl|(simp <;> rfl)|(simp [*] <;> rfl),by repeat (first|(with_reducible first|exact HB.out|apply bA|apply bN|apply bD|refine bS ?_ GE121.out)|exact HB.out)⟩
          ·rw [if_neg c29] at H
           have c29b0:((rdOf ByteArray.empty l0_1 x3_2).toList == ([46]:List UInt8)) = false:=beq_eq_false_iff_ne.mpr c29
           have c29b1:((rdOf ByteArray.empty l0_1 x3_2).toList != ([46]:List UInt8)) = true:=bne_iff_ne.mpr c29
           by_cases c33:(rdOf ByteArray.empty l0_1 x3_2).toList = ([46,46]:List UInt8)
           ·rw [if_pos c33] at H
            have c33b0:((rdOf ByteArray.empty l0_1 x3_2).toList == ([46,46]:List UInt8)) = true:=beq_iff_eq.mpr c33
            have c33b1:((rdOf ByteArray.empty l0_1 x3_2).toList != ([46,46]:List UInt8)) = false:=bne_eq_false_iff_eq.mpr c33
            clear c33
            obtain rfl:=Option.some.inj H
            obtain ⟨hcz34_0,hcz34_1,hcz34_2,hcz34_3,hfz34_0,hfz34_1,hfz34_2,hfz34_3⟩:=bX BK121.out







            have p124:0 ≤ (x3_2:Int):=oD (by assumption)
            have q124:x3_2 < (l0_1.length:Int):=oD (by assumption)
            obtain ⟨ad124,e124,hx124_0⟩:=Kd.at_string HR0_1.out x3_2 p124 q124
            cases e124
            replace hx124_0:=(HB.out.cell (World.block_lt_of_cell? w _ hx124_0)).trans hx124_0
            replace p124:=eq_true p124
            replace q124:=eq_true q124
            go_wp2_with (first|((with_reducible refine gate_callee (f:=43) rfl ?_);refine goesL_ (some 42) rfl rfl Tryd.func43 (by kernel_rfl) rfl #[.string (rdOf ByteArray.empty l0_1 x3_2)] rfl (aE1 rfl) ?_;(with_reducible refine (spec_l1Norm.calls k2 (rdOf ByteArray.empty l0_1 x3_2) true _ A23.out).mono ?_);rintro e w35 ⟨rfl,hb⟩;refine ⟨_,rfl,?_⟩;have n0_:=Am (blk_below (bB BK121.out) hb);have n1_:=Am (bT (by repeat (first|(with_reducible first|exact HB.out|apply bA|apply bN|apply bD|refine bS ?_ GE121.out)|exact HB.out)) hb);clear BK121 HB;have BK121:=n0_;have HB:=n1_;clear n0_ n1_;(try clear hb);obtain ⟨hcz36_0,hcz36_1,hcz36_2,hcz36_3,hfz36_0,hfz36_1,hfz36_2,hfz36_3⟩:=bX BK121.out;have p126:0 ≤ (x3_2:Int):=oD (by assumption);have q126:x3_2 < (l0_1.length:Int):=oD (by assumption);obtain ⟨ad126,e126,hx126_0⟩:=Kd.at_string HR0_1.out x3_2 p126 q126;obtain rfl:ad124 = ad126:=(by injection e126);replace hx126_0:=(HB.out.cell (World.block_lt_of_cell? w _ hx126_0)).trans hx126_0;replace p126:=eq_true p126;replace q126:=eq_true q126;have p127:0 ≤ (x3_2:Int):=oD (by assumption);have q127:x3_2 < (l0_1.length:Int):=oD (by assumption);obtain ⟨ad127,e127,hx127_0⟩:=Kd.at_string HR0_1.out x3_2 p127 q127;obtain rfl:ad124 = ad127:=(by injection e127);replace hx127_0:=(HB.out.cell (World.block_lt_of_cell? w _ hx127_0)).trans hx127_0;replace p127:=eq_true p127;replace q127:=eq_true q127;have p128:0 ≤ (x3_2:Int):=oD (by assumption);have q128:x3_2 < (l0_1.length:Int):=oD (by assumption);obtain ⟨ad128,e128,hx128_0⟩:=Kd.at_string HR0_1.out x3_2 p128 q128;obtain rfl:ad124 = ad128:=(by injection e128);replace hx128_0:=(HB.out.cell (World.block_lt_of_cell? w _ hx128_0)).trans hx128_0;replace p128:=eq_true p128;replace q128:=eq_true q128))
            go_ret
            exact ⟨by first|rfl|(simp <;> rfl)|(simp [*] <;> rfl),by repeat (first|(with_reducible first|exact HB.out|apply bA|apply bN|apply bD|refine bS ?_ GE121.out)|exact HB.out)⟩
           ·rw [if_neg c33] at H
            have c33b0:((rdOf ByteArray.empty l0_1 x3_2).toList == ([46,46]:List UInt8)) = false:=beq_eq_false_iff_ne.mpr c33
            have c33b1:((rdOf ByteArray.empty l0_1 x3_2).toList != ([46,46]:List UInt8)) = true:=bne_iff_ne.mpr c33
            have H':=Am H
            clear H
            obtain ⟨hcz37_0,hcz37_1,hcz37_2,hcz37_3,hfz37_0,hfz37_1,hfz37_2,hfz37_3⟩:=bX BK121.out







            have p124:0 ≤ (x3_2:Int):=oD (by assumption)
            have q124:x3_2 < (l0_1.length:Int):=oD (by assumption)
            obtain ⟨ad124,e124,hx124_0⟩:=Kd.at_string HR0_1.out x3_2 p124 q124
            cases e124
            replace hx124_0:=(HB.out.cell (World.block_lt_of_cell? w _ hx124_0)).trans hx124_0
            replace p124:=eq_true p124
            replace q124:=eq_true q124
            go_wp2_with (first|((with_reducible refine gate_callee (f:=43) rfl ?_);refine goesL_ (some 42) rfl rfl Tryd.func43 (by kernel_rfl) rfl #[.string (rdOf ByteArray.empty l0_1 x3_2)] rfl (aE1 rfl) ?_;(with_reducible refine (spec_l1Norm.calls k2 (rdOf ByteArray.empty l0_1 x3_2) true _ A23.out).mono ?_);rintro e w38 ⟨rfl,hb⟩;refine ⟨_,rfl,?_⟩;have n0_:=Am (blk_below (bB BK121.out) hb);have n1_:=Am (bT (by repeat (first|(with_reducible first|exact HB.out|apply bA|apply bN|apply bD|refine bS ?_ GE121.out)|exact HB.out)) hb);clear BK121 HB;have BK121:=n0_;have HB:=n1_;clear n0_ n1_;(try clear hb);obtain ⟨hcz39_0,hcz39_1,hcz39_2,hcz39_3,hfz39_0,hfz39_1,hfz39_2,hfz39_3⟩:=bX BK121.out;have p126:0 ≤ (x3_2:Int):=oD (by assumption);have q126:x3_2 < (l0_1.length:Int):=oD (by assumption);obtain ⟨ad126,e126,hx126_0⟩:=Kd.at_string HR0_1.out x3_2 p126 q126;obtain rfl:ad124 = ad126:=(by injection e126);replace hx126_0:=(HB.out.cell (World.block_lt_of_cell? w _ hx126_0)).trans hx126_0;replace p126:=eq_true p126;replace q126:=eq_true q126;have p127:0 ≤ (x3_2:Int):=oD (by assumption);have q127:x3_2 < (l0_1.length:Int):=oD (by assumption);obtain ⟨ad127,e127,hx127_0⟩:=Kd.at_string HR0_1.out x3_2 p127 q127;obtain rfl:ad124 = ad127:=(by injection e127);replace hx127_0:=(HB.out.cell (World.block_lt_of_cell? w _ hx127_0)).trans hx127_0;replace p127:=eq_true p127;replace q127:=eq_true q127;have p128:0 ≤ (x3_2:Int):=oD (by assumption);have q128:x3_2 < (l0_1.length:Int):=oD (by assumption);obtain ⟨ad128,e128,hx128_0⟩:=Kd.at_string HR0_1.out x3_2 p128 q128;obtain rfl:ad124 = ad128:=(by injection e128);replace hx128_0:=(HB.out.cell (World.block_lt_of_cell? w _ hx128_0)).trans hx128_0;replace p128:=eq_true p128;replace q128:=eq_true q128))
            go_roundg k2
            case measure=>have:=HJ1.out;have:=HK2.out;omega
            case rel=>exact ⟨(wrap64 (x3_2 + 1)),(by first|rfl|(simp;done)|(simp only [i64_w,i32_w] <;> rfl)|(simp [*];done)|(simp [emp_bne,emp_beq];done)),H',⟨by have:=HJ1.out;have:=HK2.out;omega⟩,⟨by refine bB ?_;exact BK121.out⟩,⟨by repeat (first|(with_reducible first|exact HB.out|apply bA|apply bN|apply bD|refine bS ?_ GE121.out)|exact HB.out)⟩⟩
        ·replace c24:=Bool.eq_false_iff.mpr c24
         subst c24
         have H1:(some false) = some r:=by rw [if_neg (show ¬ (false = true) by decide)] at H;exact H
         clear H
         have H:=H1
         clear H1
         obtain rfl:=Option.some.inj H
         obtain ⟨hcz40_0,hcz40_1,hcz40_2,hcz40_3,hfz40_0,hfz40_1,hfz40_2,hfz40_3⟩:=bX BK121.out







         have p124:0 ≤ (x3_2:Int):=oD (by assumption)
         have q124:x3_2 < (l0_1.length:Int):=oD (by assumption)
         obtain ⟨ad124,e124,hx124_0⟩:=Kd.at_string HR0_1.out x3_2 p124 q124
         cases e124
         replace hx124_0:=(HB.out.cell (World.block_lt_of_cell? w _ hx124_0)).trans hx124_0
         replace p124:=eq_true p124
         replace q124:=eq_true q124
         go_wp2_with (first|((with_reducible refine gate_callee (f:=43) rfl ?_);refine goesL_ (some 42) rfl rfl Tryd.func43 (by kernel_rfl) rfl #[.string (rdOf ByteArray.empty l0_1 x3_2)] rfl (aE1 rfl) ?_;(with_reducible refine (spec_l1Norm.calls k2 (rdOf ByteArray.empty l0_1 x3_2) false _ A23.out).mono ?_);rintro e w41 ⟨rfl,hb⟩;refine ⟨_,rfl,?_⟩;have n0_:=Am (blk_below (bB BK121.out) hb);have n1_:=Am (bT (by repeat (first|(with_reducible first|exact HB.out|apply bA|apply bN|apply bD|refine bS ?_ GE121.out)|exact HB.out)) hb);clear BK121 HB;have BK121:=n0_;have HB:=n1_;clear n0_ n1_;(try clear hb)))
         go_ret
         exact ⟨by first|rfl|(simp <;> rfl)|(simp [*] <;> rfl),by repeat (first|(with_reducible first|exact HB.out|apply bA|apply bN|apply bD|refine bS ?_ GE121.out)|exact HB.out)⟩
       ·rw [if_neg c22] at H
        exact absurd H (by simp)
      ·rw [if_neg c21] at H
       have c21b0:decide (x3_2 < (l0_1.length:Int)) = false:=decide_eq_false c21
       clear c21
       replace H:=bI H
       obtain ⟨t129,A420,H⟩:=H
       replace H:(some (decide ((t129.size:Int) ≤ 60))) = some r:=H
       have A42:=Am A420
       clear A420
       obtain rfl:=Option.some.inj H
       obtain ⟨hcz43_0,hcz43_1,hcz43_2,hcz43_3,hfz43_0,hfz43_1,hfz43_2,hfz43_3⟩:=bX BK121.out







       go_wp2_with (first|((with_reducible refine gate_callee (f:=44) rfl ?_);refine goesL_ (some 69) rfl rfl Tryd.func44 (by kernel_rfl) rfl #[.agg #[.string a0_0, .slice A0_1 l0_1.length c0_1, .bool a0_2, .string a0_3]] rfl (aE1 rfl) ?_;(with_reducible refine (spec_l1Text.calls k2 a0_0 _ _ l0_1 a0_2 a0_3 t129 _ ?side1 ?side2 A42.out).mono ?_);(case side1=>repeat (first|exact (Kd.C_below HR0_1.out HB.out)|(with_reducible refine bC ?_)));(case side2=>exact HC0_1.out);rintro e w44 ⟨rfl,hb⟩;refine ⟨_,rfl,?_⟩;have n0_:=Am (blk_below (bB BK121.out) hb);have n1_:=Am (bT (by repeat (first|(with_reducible first|exact HB.out|apply bA|apply bN|apply bD|refine bS ?_ GE121.out)|exact HB.out)) hb);clear BK121 HB;have BK121:=n0_;have HB:=n1_;clear n0_ n1_;(try clear hb)))
       go_ret
       exact ⟨by first|rfl|(simp <;> rfl)|(simp [*] <;> rfl),by repeat (first|(with_reducible first|exact HB.out|apply bA|apply bN|apply bD|refine bS ?_ GE121.out)|exact HB.out)⟩

/-! ### spec_l1Split: function 59 -/
def spec_l1Split.l0:Nat → Int → List ByteArray → ByteArray → Bool → Option (List ByteArray)
 | 0,_,_,_,_=>none
 | k + 1,x1,x5,x6,x7=>if x7 = true then ((spec_l1Cut.f k x6 x1).bind fun bt133=>(if x5.length < 8796093022208 then (spec_l1Split.l0 k x1 (x5 ++ [bt133.1]) bt133.2.1 bt133.2.2) else (none))) else (some x5)
def spec_l1Split.f (k:Nat) (a0:ByteArray) (a1:Int):Option (List ByteArray):=spec_l1Split.l0 k a1 (([]:List ByteArray)) a0 true
theorem spec_l1Split.mono_l:∀ k,(∀ y0 y1 y2 y3,LeO (spec_l1Split.l0 k y0 y1 y2 y3) (spec_l1Split.l0 (k + 1) y0 y1 y2 y3))
 | 0=>fun _ _ _ _ r h=>by simp [spec_l1Split.l0] at h
 | k + 1=>by
  have ih0:=spec_l1Split.mono_l k
  ·intro y0 y1 y2 y3
   unfold spec_l1Split.l0
   repeat' first
   | (with_reducible apply ih0)
   | (with_reducible apply spec_l1Cut.mono)
   | (with_reducible exact LeO.refl _)
   | (with_reducible exact LeO.none _)
   | (with_reducible refine LeO.ite ?_ ?_)
   | (with_reducible refine LeO.bind ?_ (fun _=>?_))





theorem spec_l1Split.mono:∀ a0 a1 k,LeO (spec_l1Split.f k a0 a1) (spec_l1Split.f (k + 1) a0 a1):=by
 intro a0 a1 k
 have ih0:=spec_l1Split.mono_l k
 unfold spec_l1Split.f
 repeat' first
   | (with_reducible apply ih0)
   | (with_reducible apply spec_l1Cut.mono)
   | (with_reducible exact LeO.refl _)
   | (with_reducible exact LeO.none _)
   | (with_reducible refine LeO.ite ?_ ?_)
   | (with_reducible refine LeO.bind ?_ (fun _=>?_))





theorem spec_l1Split.calls (k:Nat) (a0:ByteArray) (a1:Int) (r:List ByteArray) (w:World) (h:spec_l1Split.f k a0 a1 = some r) :
  Calls Tryd.prog 59 #[.string a0, .int .u8 a1] w fun e w'=>∃ v0_:Value,e = .returned (v0_) ∧ Kd.R Kd.string 9 w' w.heap.size (fun _=>True) v0_ r ∧ Below w.heap.size w w':=by
 have HB:=Am (Below.refl w.heap.size w)
 have H:(spec_l1Split.l0 k a1 (([]:List ByteArray)) a0 true) = some r:=h
 clear h
 obtain ⟨y130,hy130⟩:∃ y_:List ByteArray,y_ = (([]:List ByteArray)):=⟨_,rfl⟩
 replace H:(spec_l1Split.l0 k a1 y130 a0 true) = some r:=by first|(rw [hy130];with_reducible exact H)|(have H2_:=(Option.bind_some _ _).symm.trans H;rw [hy130];with_reducible exact H2_)|(have H2_:=(Option.bind_some _ _).symm.trans H;with_reducible exact H2_)|with_reducible exact H|(rw [hy130];exact H)|exact H
 have Ny130:=Am hy130
 clear hy130
 have H':=Am H
 clear H
 go_enter Tryd.func59,Tryd.ntmps59
 go_wp2_with (first|((with_reducible refine gate_dst (N:=9) rfl ?_);refine Kd.R_lit Kd.string _ 9 ?hg (N:=9) ?hd (xs:=([]:List ByteArray)) (inner:=[]) (ok:=fun _=>True) (okp:=fun _=>True) ?hr ?hp (fun _ hk=>hk) trivial (Below.refl _ _) (Nat.le_refl _) (by simp) ?_;(case hd=>rfl);(case hg=>rfl);(case hr=>(go_simp <;> rfl));(case hp=>exact (Reps.none _ _));intro v131 w3 ho4 hb hg_ hnew_;clear hg_ hnew_;(first|rw [← Ny130.out] at ho4|(simp only [Int.reduceToNat] at ho4;rw [← Ny130.out] at ho4));have n0_:=Am (Kd.R_lower ho4 (bU (by repeat (first|(with_reducible first|exact HB.out|apply bA|apply bN|apply bD)|exact HB.out))));have n1_:=Am (bT (by repeat (first|(with_reducible first|exact HB.out|apply bA|apply bN|apply bD)|exact HB.out)) hb);clear HB;have HO132:=n0_;have HB:=n1_;clear n0_ n1_ hb ho4))
 go_loopg [5,6,7] k (fun kq v5 v6 v7 w'=>∃ (x5_1:List ByteArray) (x6_1:ByteArray) (x7_1:Bool),v6 = .string x6_1 ∧ v7 = .bool x7_1 ∧ Aside0 (spec_l1Split.l0 kq a1 x5_1 x6_1 x7_1 = some r) ∧ Aside0 (kq ≤ k) ∧ Aside0 (Kd.R Kd.string 9 w' w.heap.size (fun _=>True) v5 x5_1) ∧ Aside0 (Below w.heap.size w w'))
 case atStart=>exact ⟨(y130),(a0),(true),(by first|rfl|(simp;done)|(simp only [i64_w,i32_w] <;> rfl)|(simp [*];done)|(simp [emp_bne,emp_beq];done)),(by first|rfl|(simp;done)|(simp only [i64_w,i32_w] <;> rfl)|(simp [*];done)|(simp [emp_bne,emp_beq];done)),H',⟨Nat.le_refl _⟩,⟨by (with_reducible repeat (first|apply rA|apply rN|apply rD));exact HO132.out⟩,⟨by repeat (first|(with_reducible first|exact HB.out|apply bA|apply bN|apply bD)|exact HB.out)⟩⟩
 case round =>
  clear H'
  try clear p2
  obtain ⟨x5_1,x6_1,x7_1,rfl,rfl,HA,HK1,HO_5,HB⟩:=hrel
  cases gk with
  | zero=>exact absurd HA.out (by simp [spec_l1Split.l0])
  | succ k1 =>
   have H:=HA.out
   clear HA
   simp only [spec_l1Split.l0] at H
   by_cases c5:x7_1 = true
   ·subst c5
    have H1:((spec_l1Cut.f k1 x6_1 a1).bind fun bt133=>(if x5_1.length < 8796093022208 then (spec_l1Split.l0 k1 a1 (x5_1 ++ [bt133.1]) bt133.2.1 bt133.2.2) else (none))) = some r:=by rw [if_pos rfl] at H;exact H
    clear H
    have H:=H1
    clear H1
    replace H:=bI H
    obtain ⟨⟨t133,t134,t135⟩,A60,H⟩:=H
    replace H:(if x5_1.length < 8796093022208 then (spec_l1Split.l0 k1 a1 (x5_1 ++ [t133]) t134 t135) else (none)) = some r:=H
    have A6:=Am A60
    clear A60
    by_cases c7:x5_1.length < 8796093022208
    ·rw [if_pos c7] at H
     have LMc7:=Am c7
     clear c7
     obtain ⟨y136,hy136⟩:∃ y_:List ByteArray,y_ = (x5_1 ++ [t133]):=⟨_,rfl⟩
     replace H:(spec_l1Split.l0 k1 a1 y136 t134 t135) = some r:=by first|(rw [hy136];with_reducible exact H)|(have H2_:=(Option.bind_some _ _).symm.trans H;rw [hy136];with_reducible exact H2_)|(have H2_:=(Option.bind_some _ _).symm.trans H;with_reducible exact H2_)|with_reducible exact H|(rw [hy136];exact H)|exact H
     have Ny136:=Am hy136
     clear hy136
     have H':=Am H
     clear H
     go_wp2_with (first|((with_reducible refine gate_callee (f:=32) rfl ?_);refine goesL_ (some 15) rfl rfl Tryd.func32 (by kernel_rfl) rfl #[.string x6_1, .int .u8 a1] rfl (aE2 rfl rfl) ?_;(with_reducible refine (spec_l1Cut.calls k1 x6_1 a1 t133 t134 t135 _ A6.out).mono ?_);rintro e w' ⟨rfl,⟨nd,rfl⟩⟩;refine ⟨_,rfl,?_⟩)|((with_reducible refine gate_builtin (b:=.append) (xs:=#[.tmp 19, .tmp 21]) rfl ?_);at_builtin;refine Kd.R_append Kd.string (w0:=w) w.heap.size rfl (.tmp 19) (.tmp 21) 23 9 (.string ⟨#[]⟩) 16 rfl Tryd.underlying23 info9 rfl (by decide) (by omega) u5 x5_1 t133 [.string t133] (fun _=>True) (fun _=>False) rfl rfl ?aP (fun _ hk=>hk.elim) ?aF ?aO ?aB ?aS ?aL ?_;(case aP=>exact rfl);(case aB=>exact (by repeat (first|(with_reducible first|exact HB.out|apply bA|apply bN|apply bD)|exact HB.out)));(case aF=>exact (fun _ _=>trivial));(case aO=>exact (bR HO_5.out));(case aS=>exact (bU (by repeat (first|(with_reducible first|exact HB.out|apply bA|apply bN|apply bD)|exact HB.out))));(case aL=>have:=LMc7.out;omega);intro v137 w8 ho hb hg hat;rw [← Ny136.out] at ho;have n0_:=Am (hb);have n1_:=Am (ho);clear HB HO_5;have HB:=n0_;have HO138:=n1_;clear n0_ n1_ ho hb hg hat))
     go_roundg k1
     case measure=>have:=HK1.out;omega
     case rel=>exact ⟨(y136),(t134),(t135),(by first|rfl|(simp;done)|(simp only [i64_w,i32_w] <;> rfl)|(simp [*];done)|(simp [emp_bne,emp_beq];done)),(by first|rfl|(simp;done)|(simp only [i64_w,i32_w] <;> rfl)|(simp [*];done)|(simp [emp_bne,emp_beq];done)),H',⟨by have:=HK1.out;omega⟩,⟨by (with_reducible repeat (first|apply rA|apply rN|apply rD));exact HO138.out⟩,⟨by repeat (first|(with_reducible first|exact HB.out|apply bA|apply bN|apply bD)|exact HB.out)⟩⟩
    ·rw [if_neg c7] at H
     exact absurd H (by simp)
   ·replace c5:=Bool.eq_false_iff.mpr c5
    subst c5
    have H1:(some x5_1) = some r:=by rw [if_neg (show ¬ (false = true) by decide)] at H;exact H
    clear H
    have H:=H1
    clear H1
    obtain rfl:=Option.some.inj H
    go_wp2
    go_ret
    exact ⟨_,by first|rfl|(simp <;> rfl)|(simp [*] <;> rfl),by (with_reducible repeat (first|apply rA|apply rN|apply rD));exact HO_5.out,by repeat (first|(with_reducible first|exact HB.out|apply bA|apply bN|apply bD)|exact HB.out)⟩

/-! ### spec_PathClean: function 61 -/
mutual
def spec_PathClean.l0:Nat → List ByteArray → List ByteArray → Int → Option (List ByteArray)
 | 0,_,_,_=>none
 | k + 1,x0,x3,x4=>if x4 < (x0.length:Int) then (if 0 ≤ x4 then (if (rdOf ByteArray.empty x0 x4).toList = ([]:List UInt8) then (spec_PathClean.j1 k x0 x3 x4 true) else (spec_PathClean.j1 k x0 x3 x4 ((rdOf ByteArray.empty x0 x4).toList == ([46]:List UInt8)))) else (none)) else (some x3)
def spec_PathClean.j1:Nat → List ByteArray → List ByteArray → Int → Bool → Option (List ByteArray)
 | 0,_,_,_,_=>none
 | k + 1,x0,x3,x4,x19=>if x19 = true then (spec_PathClean.l0 k x0 x3 (wrap64 (x4 + 1))) else (if 0 ≤ x4 then (if x4 < (x0.length:Int) then (if (rdOf ByteArray.empty x0 x4).toList = ([46,46]:List UInt8) then (if 0 ≤ (mx (wrap64 ((x3.length:Int) - 1)) 0) then (if (mx (wrap64 ((x3.length:Int) - 1)) 0) ≤ (x3.length:Int) then (spec_PathClean.l0 k x0 (x3.take ((mx (wrap64 ((x3.length:Int) - 1)) 0):Int).toNat) (wrap64 (x4 + 1))) else (none)) else (none)) else (if x3.length < 8796093022208 then (spec_PathClean.l0 k x0 (x3 ++ [rdOf ByteArray.empty x0 x4]) (wrap64 (x4 + 1))) else (none))) else (none)) else (none))
end
def spec_PathClean.f (k:Nat) (l0:List ByteArray):Option (List ByteArray):=spec_PathClean.l0 k l0 (([]:List ByteArray)) 0
theorem spec_PathClean.mono_l:∀ k,(∀ y0 y1 y2,LeO (spec_PathClean.l0 k y0 y1 y2) (spec_PathClean.l0 (k + 1) y0 y1 y2)) ∧ (∀ y0 y1 y2 y3,LeO (spec_PathClean.j1 k y0 y1 y2 y3) (spec_PathClean.j1 (k + 1) y0 y1 y2 y3))
 | 0=>⟨fun _ _ _ r h=>by simp [spec_PathClean.l0] at h,fun _ _ _ _ r h=>by simp [spec_PathClean.j1] at h⟩
 | k + 1=>by
  obtain ⟨ih0,ih1⟩:=spec_PathClean.mono_l k
  refine ⟨?_,?_⟩
  ·intro y0 y1 y2
   unfold spec_PathClean.l0
   repeat' first
   | (with_reducible apply ih0)
   | (with_reducible apply ih1)
   | (with_reducible exact LeO.refl _)
   | (with_reducible exact LeO.none _)
   | (with_reducible refine LeO.ite ?_ ?_)
   | (with_reducible refine LeO.bind ?_ (fun _=>?_))





  ·intro y0 y1 y2 y3
   unfold spec_PathClean.j1
   repeat' first
   | (with_reducible apply ih0)
   | (with_reducible apply ih1)
   | (with_reducible exact LeO.refl _)
   | (with_reducible exact LeO.none _)
   | (with_reducible refine LeO.ite ?_ ?_)
   | (with_reducible refine LeO.bind ?_ (fun _=>?_))





theorem spec_PathClean.mono:∀ a0 k,LeO (spec_PathClean.f k a0) (spec_PathClean.f (k + 1) a0):=by
 intro a0 k
 obtain ⟨ih0,ih1⟩:=spec_PathClean.mono_l k
 unfold spec_PathClean.f
 repeat' first
   | (with_reducible apply ih0)
   | (with_reducible apply ih1)
   | (with_reducible exact LeO.refl _)
   | (with_reducible exact LeO.none _)
   | (with_reducible refine LeO.ite ?_ ?_)
   | (with_reducible refine LeO.bind ?_ (fun _=>?_))





theorem spec_PathClean.calls (k:Nat) (A0:Option Addr) (c0:Nat) (l0:List ByteArray) (r:List ByteArray) (w:World) (hr0:Kd.C Kd.string w A0 l0.length l0) (hc0:l0.length ≤ c0) (h:spec_PathClean.f k l0 = some r) :
  Calls Tryd.prog 61 #[.slice A0 l0.length c0] w fun e w'=>∃ v0_:Value,e = .returned (v0_) ∧ Kd.R Kd.string 9 w' w.heap.size (fun _=>True) v0_ r ∧ Below w.heap.size w w':=by
 have HR0:=Am hr0
 have HC0:=Am hc0
 clear hr0 hc0
 have HB:=Am (Below.refl w.heap.size w)
 have H:(spec_PathClean.l0 k l0 (([]:List ByteArray)) 0) = some r:=h
 clear h
 obtain ⟨y139,hy139⟩:∃ y_:List ByteArray,y_ = (([]:List ByteArray)):=⟨_,rfl⟩
 replace H:(spec_PathClean.l0 k l0 y139 0) = some r:=by first|(rw [hy139];with_reducible exact H)|(have H2_:=(Option.bind_some _ _).symm.trans H;rw [hy139];with_reducible exact H2_)|(have H2_:=(Option.bind_some _ _).symm.trans H;with_reducible exact H2_)|with_reducible exact H|(rw [hy139];exact H)|exact H
 have Ny139:=Am hy139
 clear hy139
 have H':=Am H
 clear H
 go_enter Tryd.func61,Tryd.ntmps61
 go_wp2_with (first|((with_reducible refine gate_dst (N:=5) rfl ?_);refine Kd.R_lit Kd.string _ 9 ?hg (N:=5) ?hd (xs:=([]:List ByteArray)) (inner:=[]) (ok:=fun _=>True) (okp:=fun _=>True) ?hr ?hp (fun _ hk=>hk) trivial (Below.refl _ _) (Nat.le_refl _) (by simp) ?_;(case hd=>rfl);(case hg=>rfl);(case hr=>(go_simp <;> rfl));(case hp=>exact (Reps.none _ _));intro v140 w2 ho3 hb hg_ hnew_;clear hg_ hnew_;(first|rw [← Ny139.out] at ho3|(simp only [Int.reduceToNat] at ho3;rw [← Ny139.out] at ho3));have n0_:=Am (Kd.R_lower ho3 (bU (by repeat (first|(with_reducible first|exact HB.out|apply bA|apply bN|apply bD)|exact HB.out))));have n1_:=Am (bT (by repeat (first|(with_reducible first|exact HB.out|apply bA|apply bN|apply bD)|exact HB.out)) hb);clear HB;have HO141:=n0_;have HB:=n1_;clear n0_ n1_ hb ho3))
 go_loopg [3,4] k (fun kq v3 v4 w'=>∃ (x3_1:List ByteArray) (x4_1:Int),v4 = .int .i64 x4_1 ∧ Aside0 (spec_PathClean.l0 kq l0 x3_1 x4_1 = some r) ∧ Aside0 (kq ≤ k) ∧ Aside0 (Kd.R Kd.string 9 w' w.heap.size (fun _=>True) v3 x3_1) ∧ Aside0 (Below w.heap.size w w'))
 case atStart=>exact ⟨(y139),(0),(by first|rfl|(simp;done)|(simp only [i64_w,i32_w] <;> rfl)|(simp [*];done)|(simp [emp_bne,emp_beq];done)),H',⟨Nat.le_refl _⟩,⟨by (with_reducible repeat (first|apply rA|apply rN|apply rD));exact HO141.out⟩,⟨by repeat (first|(with_reducible first|exact HB.out|apply bA|apply bN|apply bD)|exact HB.out)⟩⟩
 case round =>
  clear H'
  try clear p2
  obtain ⟨x3_1,x4_1,rfl,HA,HK1,HO_3,HB⟩:=hrel
  cases gk with
  | zero=>exact absurd HA.out (by simp [spec_PathClean.l0])
  | succ k1 =>
   have H:=HA.out
   clear HA
   simp only [spec_PathClean.l0] at H
   by_cases c4:x4_1 < (l0.length:Int)
   ·rw [if_pos c4] at H
    have c4b0:decide (x4_1 < (l0.length:Int)) = true:=decide_eq_true c4
    clear c4
    have HC5:=Am H
    clear H
    go_upto_region 6 with (fail)
    go_cut [19] (fun v19 wc=>∃ (kq:Nat) (x19_4:Bool),v19 = .bool x19_4 ∧ Aside0 (spec_PathClean.j1 kq l0 x3_1 x4_1 x19_4 = some r) ∧ Aside0 (kq ≤ k1) ∧ Aside0 (Kd.R Kd.string 9 wc w.heap.size (fun _=>True) u3 x3_1) ∧ Aside0 (Below w.heap.size w wc))
    case first =>
     have H:=HC5.out
     clear HC5
     by_cases c6:0 ≤ x4_1
     ·rw [if_pos c6] at H
      have c6b0:decide (0 ≤ x4_1) = true:=decide_eq_true c6
      clear c6
      (first|rw [c6b0]|(simp only [i64_w,i32_w];rw [c6b0])|skip)
      by_cases c7:(rdOf ByteArray.empty l0 x4_1).toList = ([]:List UInt8)
      ·rw [if_pos c7] at H
       (try (have c7b0:(rdOf ByteArray.empty l0 x4_1).toList.isEmpty = true:=by simpa using c7))
       have c7b1:((rdOf ByteArray.empty l0 x4_1).toList == ([]:List UInt8)) = true:=beq_iff_eq.mpr c7
       have c7b2:((rdOf ByteArray.empty l0 x4_1).toList != ([]:List UInt8)) = false:=bne_eq_false_iff_eq.mpr c7
       clear c7
       have H':=Am H
       clear H
       have p142:0 ≤ (x4_1:Int):=oD (by assumption)
       have q142:x4_1 < (l0.length:Int):=oD (by assumption)
       obtain ⟨ad142,e142,hx142_0⟩:=Kd.at_string HR0.out x4_1 p142 q142
       cases e142
       replace hx142_0:=(HB.out.cell (World.block_lt_of_cell? w _ hx142_0)).trans hx142_0
       replace p142:=eq_true p142
       replace q142:=eq_true q142
       go_wp2
       go_meet
       case rel=>exact ⟨_,(true),(by first|rfl|(simp;done)|(simp only [i64_w,i32_w] <;> rfl)|(simp [*];done)|(simp [emp_bne,emp_beq];done)),H',⟨by have:=HK1.out;first|omega|exact Nat.le_refl _⟩,⟨by (with_reducible repeat (first|apply rA|apply rN|apply rD));exact HO_3.out⟩,⟨by repeat (first|(with_reducible first|exact HB.out|apply bA|apply bN|apply bD)|exact HB.out)⟩⟩
      ·rw [if_neg c7] at H
       (try (have c7b0:(rdOf ByteArray.empty l0 x4_1).toList.isEmpty = false:=by simpa using c7))
       have c7b1:((rdOf ByteArray.empty l0 x4_1).toList == ([]:List UInt8)) = false:=beq_eq_false_iff_ne.mpr c7
       have c7b2:((rdOf ByteArray.empty l0 x4_1).toList != ([]:List UInt8)) = true:=bne_iff_ne.mpr c7
       have H':=Am H
       clear H
       have p142:0 ≤ (x4_1:Int):=oD (by assumption)
       have q142:x4_1 < (l0.length:Int):=oD (by assumption)
       obtain ⟨ad142,e142,hx142_0⟩:=Kd.at_string HR0.out x4_1 p142 q142
       cases e142
       replace hx142_0:=(HB.out.cell (World.block_lt_of_cell? w _ hx142_0)).trans hx142_0
       replace p142:=eq_true p142
       replace q142:=eq_true q142
       have p143:0 ≤ (x4_1:Int):=oD (by assumption)
       have q143:x4_1 < (l0.length:Int):=oD (by assumption)
       obtain ⟨ad143,e143,hx143_0⟩:=Kd.at_string HR0.out x4_1 p143 q143
       obtain rfl:ad142 = ad143:=(by injection e143)
       replace hx143_0:=(HB.out.cell (World.block_lt_of_cell? w _ hx143_0)).trans hx143_0
       replace p143:=eq_true p143
       replace q143:=eq_true q143
       go_wp2
       go_meet
       case rel=>exact ⟨_,(((rdOf ByteArray.empty l0 x4_1).toList == ([46]:List UInt8))),(by first|rfl|(simp;done)|(simp only [i64_w,i32_w] <;> rfl)|(simp [*];done)|(simp [emp_bne,emp_beq];done)),H',⟨by have:=HK1.out;first|omega|exact Nat.le_refl _⟩,⟨by (with_reducible repeat (first|apply rA|apply rN|apply rD));exact HO_3.out⟩,⟨by repeat (first|(with_reducible first|exact HB.out|apply bA|apply bN|apply bD)|exact HB.out)⟩⟩
     ·rw [if_neg c6] at H
      exact absurd H (by simp)
    case rest =>
     clear HC5
     try clear p1
     try clear q1
     try clear hx1
     try clear p2
     try clear c4
     try clear c4b0
     try clear c6
     try clear c6b0
     try clear c7
     try clear c7b0
     try clear c7b1
     try clear c7b2
     try clear hx142_0
     try clear hx143_0
     try clear p142
     try clear p143
     try clear p2
     try clear q142
     try clear q143
     obtain ⟨kq,x19_4,rfl,HA,HJ4,HO_3,HB⟩:=hcut
     cases kq with
     | zero=>exact absurd HA.out (by simp [spec_PathClean.j1])
     | succ kj4 =>
      have H:=HA.out
      clear HA
      simp only [spec_PathClean.j1] at H
      by_cases c8:x19_4 = true
      ·subst c8
       have H1:(spec_PathClean.l0 kj4 l0 x3_1 (wrap64 (x4_1 + 1))) = some r:=by rw [if_pos rfl] at H;exact H
       clear H
       have H:=H1
       clear H1
       have H':=Am H
       clear H
       go_wp2
       go_roundg kj4
       case measure=>have:=HK1.out;have:=HJ4.out;omega
       case rel=>exact ⟨(x3_1),(wrap64 (x4_1 + 1)),(by first|rfl|(simp;done)|(simp only [i64_w,i32_w] <;> rfl)|(simp [*];done)|(simp [emp_bne,emp_beq];done)),H',⟨by have:=HK1.out;have:=HJ4.out;omega⟩,⟨by (with_reducible repeat (first|apply rA|apply rN|apply rD));exact HO_3.out⟩,⟨by repeat (first|(with_reducible first|exact HB.out|apply bA|apply bN|apply bD)|exact HB.out)⟩⟩
      ·replace c8:=Bool.eq_false_iff.mpr c8
       subst c8
       have H1:(if 0 ≤ x4_1 then (if x4_1 < (l0.length:Int) then (if (rdOf ByteArray.empty l0 x4_1).toList = ([46,46]:List UInt8) then (if 0 ≤ (mx (wrap64 ((x3_1.length:Int) - 1)) 0) then (if (mx (wrap64 ((x3_1.length:Int) - 1)) 0) ≤ (x3_1.length:Int) then (spec_PathClean.l0 kj4 l0 (x3_1.take ((mx (wrap64 ((x3_1.length:Int) - 1)) 0):Int).toNat) (wrap64 (x4_1 + 1))) else (none)) else (none)) else (if x3_1.length < 8796093022208 then (spec_PathClean.l0 kj4 l0 (x3_1 ++ [rdOf ByteArray.empty l0 x4_1]) (wrap64 (x4_1 + 1))) else (none))) else (none)) else (none)) = some r:=by rw [if_neg (show ¬ (false = true) by decide)] at H;exact H
       clear H
       have H:=H1
       clear H1
       by_cases c9:0 ≤ x4_1
       ·rw [if_pos c9] at H
        have c9b0:decide (0 ≤ x4_1) = true:=decide_eq_true c9
        clear c9
        by_cases c10:x4_1 < (l0.length:Int)
        ·rw [if_pos c10] at H
         have c10b0:decide (x4_1 < (l0.length:Int)) = true:=decide_eq_true c10
         clear c10
         by_cases c11:(rdOf ByteArray.empty l0 x4_1).toList = ([46,46]:List UInt8)
         ·rw [if_pos c11] at H
          have c11b0:((rdOf ByteArray.empty l0 x4_1).toList == ([46,46]:List UInt8)) = true:=beq_iff_eq.mpr c11
          have c11b1:((rdOf ByteArray.empty l0 x4_1).toList != ([46,46]:List UInt8)) = false:=bne_eq_false_iff_eq.mpr c11
          clear c11
          obtain ⟨ji12,hji12⟩:∃ j_:Int,(mx (wrap64 ((x3_1.length:Int) - 1)) 0) = j_:=⟨_,rfl⟩
          replace H:(if 0 ≤ (ji12) then (if (ji12) ≤ (x3_1.length:Int) then (spec_PathClean.l0 kj4 l0 (x3_1.take ((ji12):Int).toNat) (wrap64 (x4_1 + 1))) else (none)) else (none)) = some r:=by first|(rw [hji12] at H;exact H)|(simp only [hji12] at H ⊢;exact H)
          have hji12_:(if (wrap64 ((x3_1.length:Int) - 1)) < 0 then 0 else (wrap64 ((x3_1.length:Int) - 1))) = ji12:=hji12
          by_cases c13:0 ≤ (ji12)
          ·rw [if_pos c13] at H
           have c13b0:=eq_true c13
           have c13b1:=decide_eq_true c13
           clear c13
           by_cases c14:(ji12) ≤ (x3_1.length:Int)
           ·rw [if_pos c14] at H
            have c14b0:=eq_true c14
            have c14b1:=decide_eq_true c14
            clear c14
            obtain ⟨y145,hy145⟩:∃ y_:List ByteArray,y_ = (x3_1.take ((ji12):Int).toNat):=⟨_,rfl⟩
            replace H:(spec_PathClean.l0 kj4 l0 y145 (wrap64 (x4_1 + 1))) = some r:=by first|(rw [hy145];with_reducible exact H)|(have H2_:=(Option.bind_some _ _).symm.trans H;rw [hy145];with_reducible exact H2_)|(have H2_:=(Option.bind_some _ _).symm.trans H;with_reducible exact H2_)|with_reducible exact H|(rw [hy145];exact H)|exact H
            have Ny145:=Am hy145
            clear hy145
            have H':=Am H
            clear H
            have p144:0 ≤ (x4_1:Int):=oD (by assumption)
            have q144:x4_1 < (l0.length:Int):=oD (by assumption)
            obtain ⟨ad144,e144,hx144_0⟩:=Kd.at_string HR0.out x4_1 p144 q144
            cases e144
            replace hx144_0:=(HB.out.cell (World.block_lt_of_cell? w _ hx144_0)).trans hx144_0
            replace p144:=eq_true p144
            replace q144:=eq_true q144
            obtain ⟨Ao15,co15,eo15⟩:=Kd.R_slice HO_3.out
            subst eo15
            have q16:((ji12):Int) ≤ ((x3_1.length:Int):Int):=oD (by assumption)
            obtain ⟨i016,hi016,_,hsz16,_⟩:=info_parts info9
            have hcut16:=cut_to (P:=Tryd.prog) 23 9 .i64 Tryd.underlying23 hi016 Ao15 x3_1.length co15 (ji12) (oD (by assumption)) q16 (Kd.R_reads' HO_3.out).2.1
            have hr16:=Kd.R_take (m:=((ji12):Int).toNat) HO_3.out (by omega)
            have hy16:y145.length = ((ji12):Int).toNat:=(by rw [Ny145.out,List.length_take];omega)
            rw [← Ny145.out] at hr16
            rw [← hy16] at hr16 hcut16
            clear hy16 hi016 hsz16 HO_3
            have HO147:=Am hr16
            clear hr16
            replace q16:=eq_true q16
            go_wp2
            go_roundg kj4
            case measure=>have:=HK1.out;have:=HJ4.out;omega
            case rel=>exact ⟨(y145),(wrap64 (x4_1 + 1)),(by first|rfl|(simp;done)|(simp only [i64_w,i32_w] <;> rfl)|(simp [*];done)|(simp [emp_bne,emp_beq];done)),H',⟨by have:=HK1.out;have:=HJ4.out;omega⟩,⟨by (with_reducible repeat (first|apply rA|apply rN|apply rD));exact HO147.out⟩,⟨by repeat (first|(with_reducible first|exact HB.out|apply bA|apply bN|apply bD)|exact HB.out)⟩⟩
           ·rw [if_neg c14] at H
            exact absurd H (by simp)
          ·rw [if_neg c13] at H
           exact absurd H (by simp)
         ·rw [if_neg c11] at H
          have c11b0:((rdOf ByteArray.empty l0 x4_1).toList == ([46,46]:List UInt8)) = false:=beq_eq_false_iff_ne.mpr c11
          have c11b1:((rdOf ByteArray.empty l0 x4_1).toList != ([46,46]:List UInt8)) = true:=bne_iff_ne.mpr c11
          by_cases c17:x3_1.length < 8796093022208
          ·rw [if_pos c17] at H
           have LMc17:=Am c17
           clear c17
           obtain ⟨y149,hy149⟩:∃ y_:List ByteArray,y_ = (x3_1 ++ [rdOf ByteArray.empty l0 x4_1]):=⟨_,rfl⟩
           replace H:(spec_PathClean.l0 kj4 l0 y149 (wrap64 (x4_1 + 1))) = some r:=by first|(rw [hy149];with_reducible exact H)|(have H2_:=(Option.bind_some _ _).symm.trans H;rw [hy149];with_reducible exact H2_)|(have H2_:=(Option.bind_some _ _).symm.trans H;with_reducible exact H2_)|with_reducible exact H|(rw [hy149];exact H)|exact H
           have Ny149:=Am hy149
           clear hy149
           have H':=Am H
           clear H
           have p144:0 ≤ (x4_1:Int):=oD (by assumption)
           have q144:x4_1 < (l0.length:Int):=oD (by assumption)
           obtain ⟨ad144,e144,hx144_0⟩:=Kd.at_string HR0.out x4_1 p144 q144
           cases e144
           replace hx144_0:=(HB.out.cell (World.block_lt_of_cell? w _ hx144_0)).trans hx144_0
           replace p144:=eq_true p144
           replace q144:=eq_true q144
           have p148:0 ≤ (x4_1:Int):=oD (by assumption)
           have q148:x4_1 < (l0.length:Int):=oD (by assumption)
           obtain ⟨ad148,e148,hx148_0⟩:=Kd.at_string HR0.out x4_1 p148 q148
           obtain rfl:ad144 = ad148:=(by injection e148)
           replace hx148_0:=(HB.out.cell (World.block_lt_of_cell? w _ hx148_0)).trans hx148_0
           replace p148:=eq_true p148
           replace q148:=eq_true q148
           go_wp2_with (first|((with_reducible refine gate_builtin (b:=.append) (xs:=#[.tmp 12, .tmp 17]) rfl ?_);at_builtin;refine Kd.R_append Kd.string (w0:=w) w.heap.size rfl (.tmp 12) (.tmp 17) 23 9 (.string ⟨#[]⟩) 16 rfl Tryd.underlying23 info9 rfl (by decide) (by omega) u3 x3_1 (rdOf ByteArray.empty l0 x4_1) [.string (rdOf ByteArray.empty l0 x4_1)] (fun _=>True) (fun _=>False) rfl rfl ?aP (fun _ hk=>hk.elim) ?aF ?aO ?aB ?aS ?aL ?_;(case aP=>exact rfl);(case aB=>exact (by repeat (first|(with_reducible first|exact HB.out|apply bA|apply bN|apply bD)|exact HB.out)));(case aF=>exact (fun _ _=>trivial));(case aO=>exact (bR HO_3.out));(case aS=>exact (bU (by repeat (first|(with_reducible first|exact HB.out|apply bA|apply bN|apply bD)|exact HB.out))));(case aL=>have:=LMc17.out;omega);intro v150 w18 ho hb hg hat;rw [← Ny149.out] at ho;have n0_:=Am (hb);have n1_:=Am (ho);clear HB HO_3;have HB:=n0_;have HO151:=n1_;clear n0_ n1_ ho hb hg hat))
           go_roundg kj4
           case measure=>have:=HK1.out;have:=HJ4.out;omega
           case rel=>exact ⟨(y149),(wrap64 (x4_1 + 1)),(by first|rfl|(simp;done)|(simp only [i64_w,i32_w] <;> rfl)|(simp [*];done)|(simp [emp_bne,emp_beq];done)),H',⟨by have:=HK1.out;have:=HJ4.out;omega⟩,⟨by (with_reducible repeat (first|apply rA|apply rN|apply rD));exact HO151.out⟩,⟨by repeat (first|(with_reducible first|exact HB.out|apply bA|apply bN|apply bD)|exact HB.out)⟩⟩
          ·rw [if_neg c17] at H
           exact absurd H (by simp)
        ·rw [if_neg c10] at H
         exact absurd H (by simp)
       ·rw [if_neg c9] at H
        exact absurd H (by simp)
   ·rw [if_neg c4] at H
    have c4b0:decide (x4_1 < (l0.length:Int)) = false:=decide_eq_false c4
    clear c4
    obtain rfl:=Option.some.inj H
    go_wp2
    go_ret
    exact ⟨_,by first|rfl|(simp <;> rfl)|(simp [*] <;> rfl),by (with_reducible repeat (first|apply rA|apply rN|apply rD));exact HO_3.out,by repeat (first|(with_reducible first|exact HB.out|apply bA|apply bN|apply bD)|exact HB.out)⟩

end Go.Proofs.YtbnnamjaljohiaaDoor.P
