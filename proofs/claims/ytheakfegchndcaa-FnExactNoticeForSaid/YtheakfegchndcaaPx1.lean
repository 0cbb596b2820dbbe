-- Written by a program of this session (patch_print.py over the kit's print; given texts in wip/given).
-- Cut down by a program of this session (wip/tools/prune.py) to what its claim can name.
import Derived.Test.YtheakfegchndcaaPx0
namespace Go.Proofs.Ytheakfegchndcaa.P
open Go.RowKit Go.Proofs.YtheakfegchndcaaW.PrintWords Go.Proofs.YtheakfegchndcaaW.PrintLast Go.Proofs.YtheakfegchndcaaW.PrintMore
attribute [local go_sem] max2_int min2_int max_two min_two max_three min_three max_four min_four   -- for this text's walks alone
set_option linter.unusedVariables false
set_option linter.unusedSimpArgs false
set_option maxHeartbeats 8000000
set_option maxRecDepth 100000

/-! ### laws_szStringS: function 56 -/
def laws_szStringS.l0:Nat → List ByteArray → Int → Int → Option (Int)
 | 0,_,_,_=>none
 | k + 1,x0,x1,x5=>if x5 < (x0.length:Int) then (if 0 ≤ x5 then (if (wrap64 (x1 - ((rdOf ByteArray.empty x0 x5).size:Int))) < 0 then (some (-1)) else (laws_szStringS.l0 k x0 (wrap64 (x1 - ((rdOf ByteArray.empty x0 x5).size:Int))) (wrap64 (x5 + 1)))) else (none)) else (some x1)
def laws_szStringS.f (k:Nat) (l0:List ByteArray) (a1:Int):Option (Int):=if (wrap64 (a1 - (l0.length:Int))) < 0 then (some (-1)) else (laws_szStringS.l0 k l0 (wrap64 (a1 - (l0.length:Int))) 0)
theorem laws_szStringS.mono_l:∀ k,(∀ y0 y1 y2,LeO (laws_szStringS.l0 k y0 y1 y2) (laws_szStringS.l0 (k + 1) y0 y1 y2))
 | 0=>fun _ _ _ r h=>by simp [laws_szStringS.l0] at h
 | k + 1=>by
  have ih0:=laws_szStringS.mono_l k
  ·intro y0 y1 y2
   unfold laws_szStringS.l0
   repeat' first
   | (with_reducible exact ih0 _ _ _)
   | (with_reducible exact LeO.refl _)
   | (with_reducible exact LeO.none _)
   | (with_reducible refine LeO.ite ?_ ?_)
   | (with_reducible refine LeO.bind ?_ (fun _=>?_))
   | exact ih0 _ _ _
   | exact LeO.none _
   | refine LeO.ite ?_ ?_
   | refine LeO.bind ?_ (fun _=>?_)
theorem laws_szStringS.mono:∀ a0 a1 k,LeO (laws_szStringS.f k a0 a1) (laws_szStringS.f (k + 1) a0 a1):=by
 intro a0 a1 k
 have ih0:=laws_szStringS.mono_l k
 unfold laws_szStringS.f
 repeat' first
   | (with_reducible exact ih0 _ _ _)
   | (with_reducible exact LeO.refl _)
   | (with_reducible exact LeO.none _)
   | (with_reducible refine LeO.ite ?_ ?_)
   | (with_reducible refine LeO.bind ?_ (fun _=>?_))
   | exact ih0 _ _ _
   | exact LeO.none _
   | refine LeO.ite ?_ ?_
   | refine LeO.bind ?_ (fun _=>?_)
theorem laws_szStringS.calls (k:Nat) (A0:Option Addr) (c0:Nat) (l0:List ByteArray) (a1:Int) (r:Int) (w:World) (hr0:Kd.C Kd.string w A0 l0.length l0) (hc0:l0.length ≤ c0) (h:laws_szStringS.f k l0 a1 = some r) :
  Calls Try.prog 56 #[.slice A0 l0.length c0, .int .i64 a1] w fun e w'=>e = .returned (.int .i64 r) ∧ Drawn0 w w':=by
 have HR0:=Aside0.mk hr0
 have HC0:=Aside0.mk hc0
 clear hr0 hc0
 have H:(if (wrap64 (a1 - (l0.length:Int))) < 0 then (some (-1)) else (laws_szStringS.l0 k l0 (wrap64 (a1 - (l0.length:Int))) 0)) = some r:=h
 clear h
 by_cases c3:(wrap64 (a1 - (l0.length:Int))) < 0
 ·rw [if_pos c3] at H
  have c3b0:decide ((wrap64 (a1 - (l0.length:Int))) < 0) = true:=decide_eq_true c3
  clear c3
  obtain rfl:=Option.some.inj H
  go_enter Try.func56,Try.ntmps56
  go_wp2
  go_ret
  exact ⟨by first|rfl|(simp;done)|(simp only [i64_w,i32_w];done)|(simp only [i64_w,i32_w];rfl)|(simp [*];done)|(simp [emp_bne,emp_beq];done),by repeat (first|exact Drawn0.refl _|apply Drawn0.step)⟩
 ·rw [if_neg c3] at H
  have c3b0:decide ((wrap64 (a1 - (l0.length:Int))) < 0) = false:=decide_eq_false c3
  clear c3
  have H':=Aside0.mk H
  clear H
  go_enter Try.func56,Try.ntmps56
  go_wp2
  go_loopg [1,5] k (fun kq v1 v5 w'=>∃ (x1_1:Int) (x5_1:Int),v1 = .int .i64 x1_1 ∧ v5 = .int .i64 x5_1 ∧ Aside0 (laws_szStringS.l0 kq l0 x1_1 x5_1 = some r) ∧ Aside0 (kq ≤ k) ∧ Drawn0 w w')
  case atStart=>exact ⟨(wrap64 (a1 - (l0.length:Int))),(0),(by first|rfl|(simp;done)|(simp only [i64_w,i32_w];done)|(simp only [i64_w,i32_w];rfl)|(simp [*];done)|(simp [emp_bne,emp_beq];done)),(by first|rfl|(simp;done)|(simp only [i64_w,i32_w];done)|(simp only [i64_w,i32_w];rfl)|(simp [*];done)|(simp [emp_bne,emp_beq];done)),H',⟨Nat.le_refl _⟩,by repeat (first|exact Drawn0.refl _|apply Drawn0.step)⟩
  case round =>
   clear H'
   try clear p2
   try clear c3
   try clear c3b0
   obtain ⟨x1_1,x5_1,rfl,rfl,HA,HK1,⟨m1,rfl⟩⟩:=hrel
   cases gk with
   | zero=>exact absurd HA.out (by simp [laws_szStringS.l0])
   | succ k1 =>
    have H:=HA.out
    clear HA
    simp only [laws_szStringS.l0] at H
    by_cases c4:x5_1 < (l0.length:Int)
    ·rw [if_pos c4] at H
     have c4b0:decide (x5_1 < (l0.length:Int)) = true:=decide_eq_true c4
     clear c4
     by_cases c5:0 ≤ x5_1
     ·rw [if_pos c5] at H
      have c5b0:decide (0 ≤ x5_1) = true:=decide_eq_true c5
      clear c5
      by_cases c6:(wrap64 (x1_1 - ((rdOf ByteArray.empty l0 x5_1).size:Int))) < 0
      ·rw [if_pos c6] at H
       have c6b0:decide ((wrap64 (x1_1 - ((rdOf ByteArray.empty l0 x5_1).size:Int))) < 0) = true:=decide_eq_true c6
       clear c6
       obtain rfl:=Option.some.inj H
       have p101:0 ≤ (x5_1:Int):=of_decide_eq_true (by first|(with_reducible assumption)|assumption)
       have q101:x5_1 < (l0.length:Int):=of_decide_eq_true (by first|(with_reducible assumption)|assumption)
       obtain ⟨ad101,e101,hx101_0⟩:=Kd.at_string HR0.out x5_1 p101 q101
       cases e101
       replace p101:=eq_true p101
       replace q101:=eq_true q101
       go_wp2
       go_ret
       exact ⟨by first|rfl|(simp;done)|(simp only [i64_w,i32_w];done)|(simp only [i64_w,i32_w];rfl)|(simp [*];done)|(simp [emp_bne,emp_beq];done),by repeat (first|exact Drawn0.refl _|apply Drawn0.step)⟩
      ·rw [if_neg c6] at H
       have c6b0:decide ((wrap64 (x1_1 - ((rdOf ByteArray.empty l0 x5_1).size:Int))) < 0) = false:=decide_eq_false c6
       clear c6
       have H':=Aside0.mk H
       clear H
       have p101:0 ≤ (x5_1:Int):=of_decide_eq_true (by first|(with_reducible assumption)|assumption)
       have q101:x5_1 < (l0.length:Int):=of_decide_eq_true (by first|(with_reducible assumption)|assumption)
       obtain ⟨ad101,e101,hx101_0⟩:=Kd.at_string HR0.out x5_1 p101 q101
       cases e101
       replace p101:=eq_true p101
       replace q101:=eq_true q101
       go_wp2
       go_roundg k1
       case measure=>have:=HK1.out;omega
       case rel=>exact ⟨(wrap64 (x1_1 - ((rdOf ByteArray.empty l0 x5_1).size:Int))),(wrap64 (x5_1 + 1)),(by first|rfl|(simp;done)|(simp only [i64_w,i32_w];done)|(simp only [i64_w,i32_w];rfl)|(simp [*];done)|(simp [emp_bne,emp_beq];done)),(by first|rfl|(simp;done)|(simp only [i64_w,i32_w];done)|(simp only [i64_w,i32_w];rfl)|(simp [*];done)|(simp [emp_bne,emp_beq];done)),H',⟨by have:=HK1.out;omega⟩,by repeat (first|exact Drawn0.refl _|apply Drawn0.step)⟩
     ·rw [if_neg c5] at H
      exact absurd H (by simp)
    ·rw [if_neg c4] at H
     have c4b0:decide (x5_1 < (l0.length:Int)) = false:=decide_eq_false c4
     clear c4
     obtain rfl:=Option.some.inj H
     go_wp2
     go_ret
     exact ⟨by first|rfl|(simp;done)|(simp only [i64_w,i32_w];done)|(simp only [i64_w,i32_w];rfl)|(simp [*];done)|(simp [emp_bne,emp_beq];done),by repeat (first|exact Drawn0.refl _|apply Drawn0.step)⟩

/-! ### laws_szRule: function 65 -/
def laws_szRule.f (a0_0:Bool) (a0_1:ByteArray) (a1:Int):Option (Int):=if (wrap64 (a1 - (a0_1.size:Int))) < 0 then (some (-1)) else (some (wrap64 (a1 - (a0_1.size:Int))))
theorem laws_szRule.calls (a0_0:Bool) (a0_1:ByteArray) (a1:Int) (r:Int) (w:World) (h:laws_szRule.f a0_0 a0_1 a1 = some r) :
  Calls Try.prog 65 #[.agg #[.bool a0_0, .string a0_1], .int .i64 a1] w fun e w'=>e = .returned (.int .i64 r) ∧ Below w.heap.size w w':=by
 have hu83:=Try.underlying83
 have HB:=Aside0.mk (Below.refl w.heap.size w)
 have H:(if (wrap64 (a1 - (a0_1.size:Int))) < 0 then (some (-1)) else (some (wrap64 (a1 - (a0_1.size:Int))))) = some r:=h
 clear h
 by_cases c3:(wrap64 (a1 - (a0_1.size:Int))) < 0
 ·rw [if_pos c3] at H
  have c3b0:decide ((wrap64 (a1 - (a0_1.size:Int))) < 0) = true:=decide_eq_true c3
  clear c3
  obtain rfl:=Option.some.inj H
  go_enter Try.func65,Try.ntmps65
  go_wp2_with (first|((with_reducible refine gate_dst (N:=2) rfl ?_);refine box_event ?hg (N:=2) ?hd (cs:=#[.bool a0_0, .string a0_1]) (t:=83) ?hr ?_;(case hd=>rfl);(case hg=>rfl);(case hr=>first|(go_simp;done)|(go_simp;rfl));intro gb102 hg w4 hbox hb;have n0_:=Aside0.mk (below_step (by repeat (first|(with_reducible first|exact HB.out|apply below_alloc|apply pw_below_drewN|apply below_drew1)|exact HB.out)) hb);have n1_:=Aside0.mk (hbox);have n2_:=Aside0.mk ((by rw [hg];exact (below_size (by repeat (first|(with_reducible first|exact HB.out|apply below_alloc|apply pw_below_drewN|apply below_drew1)|exact HB.out))):w.heap.size ≤ gb102));have n3_:=n2_;clear HB;have HB:=n0_;have BK102:=n1_;have GW102:=n2_;have GE102:=n3_;clear n0_ n1_ n2_ n3_;clear hb hbox hg;have hcz5_0:w4.cell? ⟨gb102,0,none⟩ = some (.bool a0_0):=(blk_cell BK102.out 0).trans rfl;have hcz5_1:w4.cell? ⟨gb102,1,none⟩ = some (.string a0_1):=(blk_cell BK102.out 1).trans rfl;have hfz5_0:=blk_frozen BK102.out 0;have hfz5_1:=blk_frozen BK102.out 1))
  go_ret
  exact ⟨by first|rfl|(simp <;> rfl)|(simp [*] <;> rfl),by repeat (first|(with_reducible first|exact HB.out|apply below_alloc|apply pw_below_drewN|apply below_drew1|refine below_set ?_ GE102.out)|exact HB.out)⟩
 ·rw [if_neg c3] at H
  have c3b0:decide ((wrap64 (a1 - (a0_1.size:Int))) < 0) = false:=decide_eq_false c3
  clear c3
  obtain rfl:=Option.some.inj H
  go_enter Try.func65,Try.ntmps65
  go_wp2_with (first|((with_reducible refine gate_dst (N:=2) rfl ?_);refine box_event ?hg (N:=2) ?hd (cs:=#[.bool a0_0, .string a0_1]) (t:=83) ?hr ?_;(case hd=>rfl);(case hg=>rfl);(case hr=>first|(go_simp;done)|(go_simp;rfl));intro gb102 hg w6 hbox hb;have n0_:=Aside0.mk (below_step (by repeat (first|(with_reducible first|exact HB.out|apply below_alloc|apply pw_below_drewN|apply below_drew1)|exact HB.out)) hb);have n1_:=Aside0.mk (hbox);have n2_:=Aside0.mk ((by rw [hg];exact (below_size (by repeat (first|(with_reducible first|exact HB.out|apply below_alloc|apply pw_below_drewN|apply below_drew1)|exact HB.out))):w.heap.size ≤ gb102));have n3_:=n2_;clear HB;have HB:=n0_;have BK102:=n1_;have GW102:=n2_;have GE102:=n3_;clear n0_ n1_ n2_ n3_;clear hb hbox hg;have hcz7_0:w6.cell? ⟨gb102,0,none⟩ = some (.bool a0_0):=(blk_cell BK102.out 0).trans rfl;have hcz7_1:w6.cell? ⟨gb102,1,none⟩ = some (.string a0_1):=(blk_cell BK102.out 1).trans rfl;have hfz7_0:=blk_frozen BK102.out 0;have hfz7_1:=blk_frozen BK102.out 1))
  go_ret
  exact ⟨by first|rfl|(simp <;> rfl)|(simp [*] <;> rfl),by repeat (first|(with_reducible first|exact HB.out|apply below_alloc|apply pw_below_drewN|apply below_drew1|refine below_set ?_ GE102.out)|exact HB.out)⟩

/-! ### laws_szRuleS: function 57 -/
def laws_szRuleS.l0:Nat → List (S83) → Int → Int → Option (Int)
 | 0,_,_,_=>none
 | k + 1,x0,x1,x5=>if x5 < (x0.length:Int) then (if 0 ≤ x5 then ((laws_szRule.f ((rd_T83 x0 x5).f0) ((rd_T83 x0 x5).f1) x1).bind fun t104=>(if t104 < 0 then (some (-1)) else (laws_szRuleS.l0 k x0 t104 (wrap64 (x5 + 1))))) else (none)) else (some x1)
def laws_szRuleS.f (k:Nat) (l0:List (S83)) (a1:Int):Option (Int):=if (wrap64 (a1 - (l0.length:Int))) < 0 then (some (-1)) else (laws_szRuleS.l0 k l0 (wrap64 (a1 - (l0.length:Int))) 0)
theorem laws_szRuleS.mono_l:∀ k,(∀ y0 y1 y2,LeO (laws_szRuleS.l0 k y0 y1 y2) (laws_szRuleS.l0 (k + 1) y0 y1 y2))
 | 0=>fun _ _ _ r h=>by simp [laws_szRuleS.l0] at h
 | k + 1=>by
  have ih0:=laws_szRuleS.mono_l k
  ·intro y0 y1 y2
   unfold laws_szRuleS.l0
   repeat' first
   | (with_reducible exact ih0 _ _ _)
   | (with_reducible exact LeO.refl _)
   | (with_reducible exact LeO.none _)
   | (with_reducible refine LeO.ite ?_ ?_)
   | (with_reducible refine LeO.bind ?_ (fun _=>?_))
   | exact ih0 _ _ _
   | exact LeO.none _
   | refine LeO.ite ?_ ?_
   | refine LeO.bind ?_ (fun _=>?_)
theorem laws_szRuleS.mono:∀ a0 a1 k,LeO (laws_szRuleS.f k a0 a1) (laws_szRuleS.f (k + 1) a0 a1):=by
 intro a0 a1 k
 have ih0:=laws_szRuleS.mono_l k
 unfold laws_szRuleS.f
 repeat' first
   | (with_reducible exact ih0 _ _ _)
   | (with_reducible exact LeO.refl _)
   | (with_reducible exact LeO.none _)
   | (with_reducible refine LeO.ite ?_ ?_)
   | (with_reducible refine LeO.bind ?_ (fun _=>?_))
   | exact ih0 _ _ _
   | exact LeO.none _
   | refine LeO.ite ?_ ?_
   | refine LeO.bind ?_ (fun _=>?_)
theorem laws_szRuleS.calls (k:Nat) (A0:Option Addr) (c0:Nat) (l0:List (S83)) (a1:Int) (r:Int) (w:World) (hr0:Kd.C k83 w A0 l0.length l0) (hc0:l0.length ≤ c0) (h:laws_szRuleS.f k l0 a1 = some r) :
  Calls Try.prog 57 #[.slice A0 l0.length c0, .int .i64 a1] w fun e w'=>e = .returned (.int .i64 r) ∧ Below w.heap.size w w':=by
 have hu83:=Try.underlying83
 have HR0:=Aside0.mk hr0
 have HC0:=Aside0.mk hc0
 clear hr0 hc0
 have HB:=Aside0.mk (Below.refl w.heap.size w)
 have H:(if (wrap64 (a1 - (l0.length:Int))) < 0 then (some (-1)) else (laws_szRuleS.l0 k l0 (wrap64 (a1 - (l0.length:Int))) 0)) = some r:=h
 clear h
 by_cases c3:(wrap64 (a1 - (l0.length:Int))) < 0
 ·rw [if_pos c3] at H
  have c3b0:decide ((wrap64 (a1 - (l0.length:Int))) < 0) = true:=decide_eq_true c3
  clear c3
  obtain rfl:=Option.some.inj H
  go_enter Try.func57,Try.ntmps57
  go_wp2
  go_ret
  exact ⟨by first|rfl|(simp <;> rfl)|(simp [*] <;> rfl),by repeat (first|(with_reducible first|exact HB.out|apply below_alloc|apply pw_below_drewN|apply below_drew1)|exact HB.out)⟩
 ·rw [if_neg c3] at H
  have c3b0:decide ((wrap64 (a1 - (l0.length:Int))) < 0) = false:=decide_eq_false c3
  clear c3
  have H':=Aside0.mk H
  clear H
  go_enter Try.func57,Try.ntmps57
  go_wp2
  go_loopg [1,5] k (fun kq v1 v5 w'=>∃ (x1_1:Int) (x5_1:Int),v1 = .int .i64 x1_1 ∧ v5 = .int .i64 x5_1 ∧ Aside0 (laws_szRuleS.l0 kq l0 x1_1 x5_1 = some r) ∧ Aside0 (kq ≤ k) ∧ Aside0 (Below w.heap.size w w'))
  case atStart=>exact ⟨(wrap64 (a1 - (l0.length:Int))),(0),(by first|rfl|(simp;done)|(simp only [i64_w,i32_w];done)|(simp only [i64_w,i32_w];rfl)|(simp [*];done)|(simp [emp_bne,emp_beq];done)),(by first|rfl|(simp;done)|(simp only [i64_w,i32_w];done)|(simp only [i64_w,i32_w];rfl)|(simp [*];done)|(simp [emp_bne,emp_beq];done)),H',⟨Nat.le_refl _⟩,⟨by repeat (first|(with_reducible first|exact HB.out|apply below_alloc|apply pw_below_drewN|apply below_drew1)|exact HB.out)⟩⟩
  case round =>
   clear H'
   try clear p2
   try clear c3
   try clear c3b0
   obtain ⟨x1_1,x5_1,rfl,rfl,HA,HK1,HB⟩:=hrel
   cases gk with
   | zero=>exact absurd HA.out (by simp [laws_szRuleS.l0])
   | succ k1 =>
    have H:=HA.out
    clear HA
    simp only [laws_szRuleS.l0] at H
    by_cases c4:x5_1 < (l0.length:Int)
    ·rw [if_pos c4] at H
     have c4b0:decide (x5_1 < (l0.length:Int)) = true:=decide_eq_true c4
     clear c4
     by_cases c5:0 ≤ x5_1
     ·rw [if_pos c5] at H
      have c5b0:decide (0 ≤ x5_1) = true:=decide_eq_true c5
      clear c5
      replace H:=Option.bind_eq_some_iff.mp H
      obtain ⟨t104,A60,H⟩:=H
      replace H:(if t104 < 0 then (some (-1)) else (laws_szRuleS.l0 k1 l0 t104 (wrap64 (x5_1 + 1)))) = some r:=H
      have A6:=Aside0.mk A60
      clear A60
      by_cases c7:t104 < 0
      ·rw [if_pos c7] at H
       have c7b0:decide (t104 < 0) = true:=decide_eq_true c7
       clear c7
       obtain rfl:=Option.some.inj H
       have p103:0 ≤ (x5_1:Int):=of_decide_eq_true (by first|(with_reducible assumption)|assumption)
       have q103:x5_1 < (l0.length:Int):=of_decide_eq_true (by first|(with_reducible assumption)|assumption)
       obtain ⟨ad103,e103,hx103_0,hx103_1⟩:=at_T83 HR0.out x5_1 p103 q103
       cases e103
       replace hx103_0:=(HB.out.cell (World.block_lt_of_cell? w _ hx103_0)).trans hx103_0
       replace hx103_1:=(HB.out.cell (World.block_lt_of_cell? w _ hx103_1)).trans hx103_1
       replace p103:=eq_true p103
       replace q103:=eq_true q103
       go_wp2_with (first|((with_reducible refine gate_callee (f:=65) rfl ?_);refine goesL_ (some 23) rfl rfl Try.func65 (by kernel_rfl) rfl #[.agg #[.bool ((rd_T83 l0 x5_1).f0), .string ((rd_T83 l0 x5_1).f1)], .int .i64 x1_1] rfl (by (try simp only [List.map_toArray,List.map_cons,List.map_nil]);first|done|rfl|(simp only [List.length_drop,List.length_take];rfl)) ?_;(with_reducible refine (laws_szRule.calls ((rd_T83 l0 x5_1).f0) ((rd_T83 l0 x5_1).f1) x1_1 t104 _ A6.out).mono ?_);rintro e w8 ⟨rfl,hb⟩;refine ⟨_,rfl,?_⟩;have n0_:=Aside0.mk (below_step (by repeat (first|(with_reducible first|exact HB.out|apply below_alloc|apply pw_below_drewN|apply below_drew1)|exact HB.out)) hb);clear HB;have HB:=n0_;clear n0_;(try clear hb);(try clear hb2);(try clear hk);(try clear hi)))
       go_ret
       exact ⟨by first|rfl|(simp <;> rfl)|(simp [*] <;> rfl),by repeat (first|(with_reducible first|exact HB.out|apply below_alloc|apply pw_below_drewN|apply below_drew1)|exact HB.out)⟩
      ·rw [if_neg c7] at H
       have c7b0:decide (t104 < 0) = false:=decide_eq_false c7
       clear c7
       have H':=Aside0.mk H
       clear H
       have p103:0 ≤ (x5_1:Int):=of_decide_eq_true (by first|(with_reducible assumption)|assumption)
       have q103:x5_1 < (l0.length:Int):=of_decide_eq_true (by first|(with_reducible assumption)|assumption)
       obtain ⟨ad103,e103,hx103_0,hx103_1⟩:=at_T83 HR0.out x5_1 p103 q103
       cases e103
       replace hx103_0:=(HB.out.cell (World.block_lt_of_cell? w _ hx103_0)).trans hx103_0
       replace hx103_1:=(HB.out.cell (World.block_lt_of_cell? w _ hx103_1)).trans hx103_1
       replace p103:=eq_true p103
       replace q103:=eq_true q103
       go_wp2_with (first|((with_reducible refine gate_callee (f:=65) rfl ?_);refine goesL_ (some 23) rfl rfl Try.func65 (by kernel_rfl) rfl #[.agg #[.bool ((rd_T83 l0 x5_1).f0), .string ((rd_T83 l0 x5_1).f1)], .int .i64 x1_1] rfl (by (try simp only [List.map_toArray,List.map_cons,List.map_nil]);first|done|rfl|(simp only [List.length_drop,List.length_take];rfl)) ?_;(with_reducible refine (laws_szRule.calls ((rd_T83 l0 x5_1).f0) ((rd_T83 l0 x5_1).f1) x1_1 t104 _ A6.out).mono ?_);rintro e w9 ⟨rfl,hb⟩;refine ⟨_,rfl,?_⟩;have n0_:=Aside0.mk (below_step (by repeat (first|(with_reducible first|exact HB.out|apply below_alloc|apply pw_below_drewN|apply below_drew1)|exact HB.out)) hb);clear HB;have HB:=n0_;clear n0_;(try clear hb);(try clear hb2);(try clear hk);(try clear hi)))
       go_roundg k1
       case measure=>have:=HK1.out;omega
       case rel=>exact ⟨(t104),(wrap64 (x5_1 + 1)),(by first|rfl|(simp;done)|(simp only [i64_w,i32_w];done)|(simp only [i64_w,i32_w];rfl)|(simp [*];done)|(simp [emp_bne,emp_beq];done)),(by first|rfl|(simp;done)|(simp only [i64_w,i32_w];done)|(simp only [i64_w,i32_w];rfl)|(simp [*];done)|(simp [emp_bne,emp_beq];done)),H',⟨by have:=HK1.out;omega⟩,⟨by repeat (first|(with_reducible first|exact HB.out|apply below_alloc|apply pw_below_drewN|apply below_drew1)|exact HB.out)⟩⟩
     ·rw [if_neg c5] at H
      exact absurd H (by simp)
    ·rw [if_neg c4] at H
     have c4b0:decide (x5_1 < (l0.length:Int)) = false:=decide_eq_false c4
     clear c4
     obtain rfl:=Option.some.inj H
     go_wp2
     go_ret
     exact ⟨by first|rfl|(simp <;> rfl)|(simp [*] <;> rfl),by repeat (first|(with_reducible first|exact HB.out|apply below_alloc|apply pw_below_drewN|apply below_drew1)|exact HB.out)⟩

/-! ### laws_szGroup: function 41 -/
def laws_szGroup.f (k:Nat) (l0_0:List ByteArray) (l0_1:List (S83)) (a0_2:Int) (a1:Int):Option (Int):=(laws_szStringS.f k l0_0 a1).bind fun t106=>(if t106 < 0 then (some (-1)) else ((laws_szRuleS.f k l0_1 t106).bind fun t107=>(if t107 < 0 then (some (-1)) else (some t107))))
theorem laws_szGroup.mono:∀ a0 a1 a2 a3 k,LeO (laws_szGroup.f k a0 a1 a2 a3) (laws_szGroup.f (k + 1) a0 a1 a2 a3):=by
 intro a0 a1 a2 a3 k
 unfold laws_szGroup.f
 repeat' first
   | (with_reducible exact laws_szRuleS.mono _ _ _)
   | (with_reducible exact laws_szStringS.mono _ _ _)
   | (with_reducible exact LeO.refl _)
   | (with_reducible exact LeO.none _)
   | (with_reducible refine LeO.ite ?_ ?_)
   | (with_reducible refine LeO.bind ?_ (fun _=>?_))
   | exact laws_szRuleS.mono _ _ _
   | exact laws_szStringS.mono _ _ _
   | exact LeO.none _
   | refine LeO.ite ?_ ?_
   | refine LeO.bind ?_ (fun _=>?_)
theorem laws_szGroup.calls (k:Nat) (A0_0:Option Addr) (c0_0:Nat) (l0_0:List ByteArray) (A0_1:Option Addr) (c0_1:Nat) (l0_1:List (S83)) (a0_2:Int) (a1:Int) (r:Int) (w:World) (hr0_0:Kd.C Kd.string w A0_0 l0_0.length l0_0) (hc0_0:l0_0.length ≤ c0_0) (hr0_1:Kd.C k83 w A0_1 l0_1.length l0_1) (hc0_1:l0_1.length ≤ c0_1) (h:laws_szGroup.f k l0_0 l0_1 a0_2 a1 = some r) :
  Calls Try.prog 41 #[.agg #[.slice A0_0 l0_0.length c0_0, .slice A0_1 l0_1.length c0_1, .int .i64 a0_2], .int .i64 a1] w fun e w'=>e = .returned (.int .i64 r) ∧ Below w.heap.size w w':=by
 have hu65:=Try.underlying65
 have HR0_0:=Aside0.mk hr0_0
 have HC0_0:=Aside0.mk hc0_0
 clear hr0_0 hc0_0
 have HR0_1:=Aside0.mk hr0_1
 have HC0_1:=Aside0.mk hc0_1
 clear hr0_1 hc0_1
 have HB:=Aside0.mk (Below.refl w.heap.size w)
 have H:((laws_szStringS.f k l0_0 a1).bind fun t106=>(if t106 < 0 then (some (-1)) else ((laws_szRuleS.f k l0_1 t106).bind fun t107=>(if t107 < 0 then (some (-1)) else (some t107))))) = some r:=h
 clear h
 replace H:=Option.bind_eq_some_iff.mp H
 obtain ⟨t106,A30,H⟩:=H
 replace H:(if t106 < 0 then (some (-1)) else ((laws_szRuleS.f k l0_1 t106).bind fun t107=>(if t107 < 0 then (some (-1)) else (some t107)))) = some r:=H
 have A3:=Aside0.mk A30
 clear A30
 by_cases c4:t106 < 0
 ·rw [if_pos c4] at H
  have c4b0:decide (t106 < 0) = true:=decide_eq_true c4
  clear c4
  obtain rfl:=Option.some.inj H
  go_enter Try.func41,Try.ntmps41
  go_wp2_with (first|((with_reducible refine gate_dst (N:=2) rfl ?_);refine box_event ?hg (N:=2) ?hd (cs:=#[.slice A0_0 l0_0.length c0_0, .slice A0_1 l0_1.length c0_1, .int .i64 a0_2]) (t:=65) ?hr ?_;(case hd=>rfl);(case hg=>rfl);(case hr=>first|(go_simp;done)|(go_simp;rfl));intro gb105 hg w5 hbox hb;have n0_:=Aside0.mk (below_step (by repeat (first|(with_reducible first|exact HB.out|apply below_alloc|apply pw_below_drewN|apply below_drew1)|exact HB.out)) hb);have n1_:=Aside0.mk (hbox);have n2_:=Aside0.mk ((by rw [hg];exact (below_size (by repeat (first|(with_reducible first|exact HB.out|apply below_alloc|apply pw_below_drewN|apply below_drew1)|exact HB.out))):w.heap.size ≤ gb105));have n3_:=n2_;clear HB;have HB:=n0_;have BK105:=n1_;have GW105:=n2_;have GE105:=n3_;clear n0_ n1_ n2_ n3_;clear hb hbox hg;have hcz6_0:w5.cell? ⟨gb105,0,none⟩ = some (.slice A0_0 l0_0.length c0_0):=(blk_cell BK105.out 0).trans rfl;have hcz6_1:w5.cell? ⟨gb105,1,none⟩ = some (.slice A0_1 l0_1.length c0_1):=(blk_cell BK105.out 1).trans rfl;have hcz6_2:w5.cell? ⟨gb105,2,none⟩ = some (.int .i64 a0_2):=(blk_cell BK105.out 2).trans rfl;have hfz6_0:=blk_frozen BK105.out 0;have hfz6_1:=blk_frozen BK105.out 1;have hfz6_2:=blk_frozen BK105.out 2)|((with_reducible refine gate_callee (f:=56) rfl ?_);refine goesL_ (some 8) rfl rfl Try.func56 (by kernel_rfl) rfl #[.slice A0_0 l0_0.length c0_0, .int .i64 a1] rfl (by (try simp only [List.map_toArray,List.map_cons,List.map_nil]);first|done|rfl|(simp only [List.length_drop,List.length_take];rfl)) ?_;(with_reducible refine (laws_szStringS.calls k _ _ l0_0 a1 t106 _ ?side1 ?side2 A3.out).mono ?_);(case side1=>repeat (first|exact (Kd.C_below HR0_0.out HB.out)|(with_reducible refine Kd.C_alloc ?_ _)|(with_reducible refine Kd.C_drewN ?_ _)|(with_reducible refine Kd.C_drew ?_)));(case side2=>exact HC0_0.out);rintro e w' ⟨rfl,⟨nd,rfl⟩⟩;refine ⟨_,rfl,?_⟩))
  go_ret
  exact ⟨by first|rfl|(simp <;> rfl)|(simp [*] <;> rfl),by repeat (first|(with_reducible first|exact HB.out|apply below_alloc|apply pw_below_drewN|apply below_drew1|refine below_set ?_ GE105.out)|exact HB.out)⟩
 ·rw [if_neg c4] at H
  have c4b0:decide (t106 < 0) = false:=decide_eq_false c4
  clear c4
  replace H:=Option.bind_eq_some_iff.mp H
  obtain ⟨t107,A70,H⟩:=H
  replace H:(if t107 < 0 then (some (-1)) else (some t107)) = some r:=H
  have A7:=Aside0.mk A70
  clear A70
  by_cases c8:t107 < 0
  ·rw [if_pos c8] at H
   have c8b0:decide (t107 < 0) = true:=decide_eq_true c8
   clear c8
   obtain rfl:=Option.some.inj H
   go_enter Try.func41,Try.ntmps41
   go_wp2_with (first|((with_reducible refine gate_dst (N:=2) rfl ?_);refine box_event ?hg (N:=2) ?hd (cs:=#[.slice A0_0 l0_0.length c0_0, .slice A0_1 l0_1.length c0_1, .int .i64 a0_2]) (t:=65) ?hr ?_;(case hd=>rfl);(case hg=>rfl);(case hr=>first|(go_simp;done)|(go_simp;rfl));intro gb105 hg w9 hbox hb;have n0_:=Aside0.mk (below_step (by repeat (first|(with_reducible first|exact HB.out|apply below_alloc|apply pw_below_drewN|apply below_drew1)|exact HB.out)) hb);have n1_:=Aside0.mk (hbox);have n2_:=Aside0.mk ((by rw [hg];exact (below_size (by repeat (first|(with_reducible first|exact HB.out|apply below_alloc|apply pw_below_drewN|apply below_drew1)|exact HB.out))):w.heap.size ≤ gb105));have n3_:=n2_;clear HB;have HB:=n0_;have BK105:=n1_;have GW105:=n2_;have GE105:=n3_;clear n0_ n1_ n2_ n3_;clear hb hbox hg;have hcz10_0:w9.cell? ⟨gb105,0,none⟩ = some (.slice A0_0 l0_0.length c0_0):=(blk_cell BK105.out 0).trans rfl;have hcz10_1:w9.cell? ⟨gb105,1,none⟩ = some (.slice A0_1 l0_1.length c0_1):=(blk_cell BK105.out 1).trans rfl;have hcz10_2:w9.cell? ⟨gb105,2,none⟩ = some (.int .i64 a0_2):=(blk_cell BK105.out 2).trans rfl;have hfz10_0:=blk_frozen BK105.out 0;have hfz10_1:=blk_frozen BK105.out 1;have hfz10_2:=blk_frozen BK105.out 2)|((with_reducible refine gate_callee (f:=56) rfl ?_);refine goesL_ (some 8) rfl rfl Try.func56 (by kernel_rfl) rfl #[.slice A0_0 l0_0.length c0_0, .int .i64 a1] rfl (by (try simp only [List.map_toArray,List.map_cons,List.map_nil]);first|done|rfl|(simp only [List.length_drop,List.length_take];rfl)) ?_;(with_reducible refine (laws_szStringS.calls k _ _ l0_0 a1 t106 _ ?side1 ?side2 A3.out).mono ?_);(case side1=>repeat (first|exact (Kd.C_below HR0_0.out HB.out)|(with_reducible refine Kd.C_alloc ?_ _)|(with_reducible refine Kd.C_drewN ?_ _)|(with_reducible refine Kd.C_drew ?_)));(case side2=>exact HC0_0.out);rintro e w' ⟨rfl,⟨nd,rfl⟩⟩;refine ⟨_,rfl,?_⟩)|((with_reducible refine gate_callee (f:=57) rfl ?_);refine goesL_ (some 14) rfl rfl Try.func57 (by kernel_rfl) rfl #[.slice A0_1 l0_1.length c0_1, .int .i64 t106] rfl (by (try simp only [List.map_toArray,List.map_cons,List.map_nil]);first|done|rfl|(simp only [List.length_drop,List.length_take];rfl)) ?_;(with_reducible refine (laws_szRuleS.calls k _ _ l0_1 t106 t107 _ ?side1 ?side2 A7.out).mono ?_);(case side1=>repeat (first|exact (Kd.C_below HR0_1.out (by repeat (first|(with_reducible first|exact HB.out|apply below_alloc|apply pw_below_drewN|apply below_drew1|refine below_set ?_ GE105.out)|exact HB.out)))|(with_reducible refine Kd.C_alloc ?_ _)|(with_reducible refine Kd.C_drewN ?_ _)|(with_reducible refine Kd.C_drew ?_)));(case side2=>exact HC0_1.out);rintro e w11 ⟨rfl,hb⟩;refine ⟨_,rfl,?_⟩;have n0_:=Aside0.mk (blk_below (g:=gb105) (o:=.cells #[.slice A0_0 l0_0.length c0_0, .slice A0_1 l0_1.length c0_1, .int .i64 a0_2] 65 (0,0)) (by (with_reducible repeat (first|refine blk_drewN ?_ _|refine blk_drew ?_|refine blk_alloc ?_ _));exact BK105.out) hb);have n1_:=Aside0.mk (below_step (by repeat (first|(with_reducible first|exact HB.out|apply below_alloc|apply pw_below_drewN|apply below_drew1|refine below_set ?_ GE105.out)|exact HB.out)) hb);clear BK105;clear HB;have BK105:=n0_;have HB:=n1_;clear n0_ n1_;(try clear hb);(try clear hb2);(try clear hk);(try clear hi)))
   go_ret
   exact ⟨by first|rfl|(simp <;> rfl)|(simp [*] <;> rfl),by repeat (first|(with_reducible first|exact HB.out|apply below_alloc|apply pw_below_drewN|apply below_drew1|refine below_set ?_ GE105.out)|exact HB.out)⟩
  ·rw [if_neg c8] at H
   have c8b0:decide (t107 < 0) = false:=decide_eq_false c8
   clear c8
   obtain rfl:=Option.some.inj H
   go_enter Try.func41,Try.ntmps41
   go_wp2_with (first|((with_reducible refine gate_dst (N:=2) rfl ?_);refine box_event ?hg (N:=2) ?hd (cs:=#[.slice A0_0 l0_0.length c0_0, .slice A0_1 l0_1.length c0_1, .int .i64 a0_2]) (t:=65) ?hr ?_;(case hd=>rfl);(case hg=>rfl);(case hr=>first|(go_simp;done)|(go_simp;rfl));intro gb105 hg w12 hbox hb;have n0_:=Aside0.mk (below_step (by repeat (first|(with_reducible first|exact HB.out|apply below_alloc|apply pw_below_drewN|apply below_drew1)|exact HB.out)) hb);have n1_:=Aside0.mk (hbox);have n2_:=Aside0.mk ((by rw [hg];exact (below_size (by repeat (first|(with_reducible first|exact HB.out|apply below_alloc|apply pw_below_drewN|apply below_drew1)|exact HB.out))):w.heap.size ≤ gb105));have n3_:=n2_;clear HB;have HB:=n0_;have BK105:=n1_;have GW105:=n2_;have GE105:=n3_;clear n0_ n1_ n2_ n3_;clear hb hbox hg;have hcz13_0:w12.cell? ⟨gb105,0,none⟩ = some (.slice A0_0 l0_0.length c0_0):=(blk_cell BK105.out 0).trans rfl;have hcz13_1:w12.cell? ⟨gb105,1,none⟩ = some (.slice A0_1 l0_1.length c0_1):=(blk_cell BK105.out 1).trans rfl;have hcz13_2:w12.cell? ⟨gb105,2,none⟩ = some (.int .i64 a0_2):=(blk_cell BK105.out 2).trans rfl;have hfz13_0:=blk_frozen BK105.out 0;have hfz13_1:=blk_frozen BK105.out 1;have hfz13_2:=blk_frozen BK105.out 2)|((with_reducible refine gate_callee (f:=56) rfl ?_);refine goesL_ (some 8) rfl rfl Try.func56 (by kernel_rfl) rfl #[.slice A0_0 l0_0.length c0_0, .int .i64 a1] rfl (by (try simp only [List.map_toArray,List.map_cons,List.map_nil]);first|done|rfl|(simp only [List.length_drop,List.length_take];rfl)) ?_;(with_reducible refine (laws_szStringS.calls k _ _ l0_0 a1 t106 _ ?side1 ?side2 A3.out).mono ?_);(case side1=>repeat (first|exact (Kd.C_below HR0_0.out HB.out)|(with_reducible refine Kd.C_alloc ?_ _)|(with_reducible refine Kd.C_drewN ?_ _)|(with_reducible refine Kd.C_drew ?_)));(case side2=>exact HC0_0.out);rintro e w' ⟨rfl,⟨nd,rfl⟩⟩;refine ⟨_,rfl,?_⟩)|((with_reducible refine gate_callee (f:=57) rfl ?_);refine goesL_ (some 14) rfl rfl Try.func57 (by kernel_rfl) rfl #[.slice A0_1 l0_1.length c0_1, .int .i64 t106] rfl (by (try simp only [List.map_toArray,List.map_cons,List.map_nil]);first|done|rfl|(simp only [List.length_drop,List.length_take];rfl)) ?_;(with_reducible refine (laws_szRuleS.calls k _ _ l0_1 t106 t107 _ ?side1 ?side2 A7.out).mono ?_);(case side1=>repeat (first|exact (Kd.C_below HR0_1.out (by repeat (first|(with_reducible first|exact HB.out|apply below_alloc|apply pw_below_drewN|apply below_drew1|refine below_set ?_ GE105.out)|exact HB.out)))|(with_reducible refine Kd.C_alloc ?_ _)|(with_reducible refine Kd.C_drewN ?_ _)|(with_reducible refine Kd.C_drew ?_)));(case side2=>exact HC0_1.out);rintro e w14 ⟨rfl,hb⟩;refine ⟨_,rfl,?_⟩;have n0_:=Aside0.mk (blk_below (g:=gb105) (o:=.cells #[.slice A0_0 l0_0.length c0_0, .slice A0_1 l0_1.length c0_1, .int .i64 a0_2] 65 (0,0)) (by (with_reducible repeat (first|refine blk_drewN ?_ _|refine blk_drew ?_|refine blk_alloc ?_ _));exact BK105.out) hb);have n1_:=Aside0.mk (below_step (by repeat (first|(with_reducible first|exact HB.out|apply below_alloc|apply pw_below_drewN|apply below_drew1|refine below_set ?_ GE105.out)|exact HB.out)) hb);clear BK105;clear HB;have BK105:=n0_;have HB:=n1_;clear n0_ n1_;(try clear hb);(try clear hb2);(try clear hk);(try clear hi)))
   go_ret
   exact ⟨by first|rfl|(simp <;> rfl)|(simp [*] <;> rfl),by repeat (first|(with_reducible first|exact HB.out|apply below_alloc|apply pw_below_drewN|apply below_drew1|refine below_set ?_ GE105.out)|exact HB.out)⟩

/-! ### laws_szGroupS: function 21 -/
def laws_szGroupS.l0:Nat → List (S65) → Int → Int → Option (Int)
 | 0,_,_,_=>none
 | k + 1,x0,x1,x5=>if x5 < (x0.length:Int) then (if 0 ≤ x5 then ((laws_szGroup.f k ((rd_T65 x0 x5).f0) ((rd_T65 x0 x5).f1) ((rd_T65 x0 x5).f2) x1).bind fun t109=>(if t109 < 0 then (some (-1)) else (laws_szGroupS.l0 k x0 t109 (wrap64 (x5 + 1))))) else (none)) else (some x1)
def laws_szGroupS.f (k:Nat) (l0:List (S65)) (a1:Int):Option (Int):=if (wrap64 (a1 - (l0.length:Int))) < 0 then (some (-1)) else (laws_szGroupS.l0 k l0 (wrap64 (a1 - (l0.length:Int))) 0)
theorem laws_szGroupS.mono_l:∀ k,(∀ y0 y1 y2,LeO (laws_szGroupS.l0 k y0 y1 y2) (laws_szGroupS.l0 (k + 1) y0 y1 y2))
 | 0=>fun _ _ _ r h=>by simp [laws_szGroupS.l0] at h
 | k + 1=>by
  have ih0:=laws_szGroupS.mono_l k
  ·intro y0 y1 y2
   unfold laws_szGroupS.l0
   repeat' first
   | (with_reducible exact ih0 _ _ _)
   | (with_reducible exact laws_szGroup.mono _ _ _ _ _)
   | (with_reducible exact LeO.refl _)
   | (with_reducible exact LeO.none _)
   | (with_reducible refine LeO.ite ?_ ?_)
   | (with_reducible refine LeO.bind ?_ (fun _=>?_))
   | exact ih0 _ _ _
   | exact laws_szGroup.mono _ _ _ _ _
   | exact LeO.none _
   | refine LeO.ite ?_ ?_
   | refine LeO.bind ?_ (fun _=>?_)
theorem laws_szGroupS.mono:∀ a0 a1 k,LeO (laws_szGroupS.f k a0 a1) (laws_szGroupS.f (k + 1) a0 a1):=by
 intro a0 a1 k
 have ih0:=laws_szGroupS.mono_l k
 unfold laws_szGroupS.f
 repeat' first
   | (with_reducible exact ih0 _ _ _)
   | (with_reducible exact laws_szGroup.mono _ _ _ _ _)
   | (with_reducible exact LeO.refl _)
   | (with_reducible exact LeO.none _)
   | (with_reducible refine LeO.ite ?_ ?_)
   | (with_reducible refine LeO.bind ?_ (fun _=>?_))
   | exact ih0 _ _ _
   | exact laws_szGroup.mono _ _ _ _ _
   | exact LeO.none _
   | refine LeO.ite ?_ ?_
   | refine LeO.bind ?_ (fun _=>?_)
theorem laws_szGroupS.calls (k:Nat) (A0:Option Addr) (c0:Nat) (l0:List (S65)) (a1:Int) (r:Int) (w:World) (hr0:Kd.C k65 w A0 l0.length l0) (hc0:l0.length ≤ c0) (h:laws_szGroupS.f k l0 a1 = some r) :
  Calls Try.prog 21 #[.slice A0 l0.length c0, .int .i64 a1] w fun e w'=>e = .returned (.int .i64 r) ∧ Below w.heap.size w w':=by
 have hu65:=Try.underlying65
 have HR0:=Aside0.mk hr0
 have HC0:=Aside0.mk hc0
 clear hr0 hc0
 have HB:=Aside0.mk (Below.refl w.heap.size w)
 have H:(if (wrap64 (a1 - (l0.length:Int))) < 0 then (some (-1)) else (laws_szGroupS.l0 k l0 (wrap64 (a1 - (l0.length:Int))) 0)) = some r:=h
 clear h
 by_cases c3:(wrap64 (a1 - (l0.length:Int))) < 0
 ·rw [if_pos c3] at H
  have c3b0:decide ((wrap64 (a1 - (l0.length:Int))) < 0) = true:=decide_eq_true c3
  clear c3
  obtain rfl:=Option.some.inj H
  go_enter Try.func21,Try.ntmps21
  go_wp2
  go_ret
  exact ⟨by first|rfl|(simp <;> rfl)|(simp [*] <;> rfl),by repeat (first|(with_reducible first|exact HB.out|apply below_alloc|apply pw_below_drewN|apply below_drew1)|exact HB.out)⟩
 ·rw [if_neg c3] at H
  have c3b0:decide ((wrap64 (a1 - (l0.length:Int))) < 0) = false:=decide_eq_false c3
  clear c3
  have H':=Aside0.mk H
  clear H
  go_enter Try.func21,Try.ntmps21
  go_wp2
  go_loopg [1,5] k (fun kq v1 v5 w'=>∃ (x1_1:Int) (x5_1:Int),v1 = .int .i64 x1_1 ∧ v5 = .int .i64 x5_1 ∧ Aside0 (laws_szGroupS.l0 kq l0 x1_1 x5_1 = some r) ∧ Aside0 (kq ≤ k) ∧ Aside0 (Below w.heap.size w w'))
  case atStart=>exact ⟨(wrap64 (a1 - (l0.length:Int))),(0),(by first|rfl|(simp;done)|(simp only [i64_w,i32_w];done)|(simp only [i64_w,i32_w];rfl)|(simp [*];done)|(simp [emp_bne,emp_beq];done)),(by first|rfl|(simp;done)|(simp only [i64_w,i32_w];done)|(simp only [i64_w,i32_w];rfl)|(simp [*];done)|(simp [emp_bne,emp_beq];done)),H',⟨Nat.le_refl _⟩,⟨by repeat (first|(with_reducible first|exact HB.out|apply below_alloc|apply pw_below_drewN|apply below_drew1)|exact HB.out)⟩⟩
  case round =>
   clear H'
   try clear c2
   try clear p2
   try clear c3
   try clear c3b0
   obtain ⟨x1_1,x5_1,rfl,rfl,HA,HK1,HB⟩:=hrel
   cases gk with
   | zero=>exact absurd HA.out (by simp [laws_szGroupS.l0])
   | succ k1 =>
    have H:=HA.out
    clear HA
    simp only [laws_szGroupS.l0] at H
    by_cases c4:x5_1 < (l0.length:Int)
    ·rw [if_pos c4] at H
     have c4b0:decide (x5_1 < (l0.length:Int)) = true:=decide_eq_true c4
     clear c4
     by_cases c5:0 ≤ x5_1
     ·rw [if_pos c5] at H
      have c5b0:decide (0 ≤ x5_1) = true:=decide_eq_true c5
      clear c5
      replace H:=Option.bind_eq_some_iff.mp H
      obtain ⟨t109,A60,H⟩:=H
      replace H:(if t109 < 0 then (some (-1)) else (laws_szGroupS.l0 k1 l0 t109 (wrap64 (x5_1 + 1)))) = some r:=H
      have A6:=Aside0.mk A60
      clear A60
      by_cases c7:t109 < 0
      ·rw [if_pos c7] at H
       have c7b0:decide (t109 < 0) = true:=decide_eq_true c7
       clear c7
       obtain rfl:=Option.some.inj H
       have p108:0 ≤ (x5_1:Int):=of_decide_eq_true (by first|(with_reducible assumption)|assumption)
       have q108:x5_1 < (l0.length:Int):=of_decide_eq_true (by first|(with_reducible assumption)|assumption)
       obtain ⟨ad108,A108_0,c108_0,A108_1,c108_1,e108,hx108_0,hx108_1,hx108_2,hl108_0,hi108_0,hl108_1,hi108_1⟩:=at_T65 HR0.out x5_1 p108 q108
       cases e108
       replace hx108_0:=(HB.out.cell (World.block_lt_of_cell? w _ hx108_0)).trans hx108_0
       replace hx108_1:=(HB.out.cell (World.block_lt_of_cell? w _ hx108_1)).trans hx108_1
       replace hx108_2:=(HB.out.cell (World.block_lt_of_cell? w _ hx108_2)).trans hx108_2
       have HR108_0:=Aside0.mk hi108_0
       have HC108_0:=Aside0.mk hl108_0
       clear hi108_0 hl108_0
       have HR108_1:=Aside0.mk hi108_1
       have HC108_1:=Aside0.mk hl108_1
       clear hi108_1 hl108_1
       replace p108:=eq_true p108
       replace q108:=eq_true q108
       go_wp2_with (first|((with_reducible refine gate_callee (f:=41) rfl ?_);refine goesL_ (some 23) rfl rfl Try.func41 (by kernel_rfl) rfl #[.agg #[.slice A108_0 ((rd_T65 l0 x5_1).f0).length c108_0, .slice A108_1 ((rd_T65 l0 x5_1).f1).length c108_1, .int .i64 ((rd_T65 l0 x5_1).f2)], .int .i64 x1_1] rfl (by (try simp only [List.map_toArray,List.map_cons,List.map_nil]);first|done|rfl|(simp only [List.length_drop,List.length_take];rfl)) ?_;(with_reducible refine (laws_szGroup.calls k1 _ _ ((rd_T65 l0 x5_1).f0) _ _ ((rd_T65 l0 x5_1).f1) ((rd_T65 l0 x5_1).f2) x1_1 t109 _ ?side1 ?side2 ?side3 ?side4 A6.out).mono ?_);(case side1=>repeat (first|exact (Kd.C_below HR108_0.out HB.out)|(with_reducible refine Kd.C_alloc ?_ _)|(with_reducible refine Kd.C_drewN ?_ _)|(with_reducible refine Kd.C_drew ?_)));(case side2=>exact HC108_0.out);(case side3=>repeat (first|exact (Kd.C_below HR108_1.out HB.out)|(with_reducible refine Kd.C_alloc ?_ _)|(with_reducible refine Kd.C_drewN ?_ _)|(with_reducible refine Kd.C_drew ?_)));(case side4=>exact HC108_1.out);rintro e w8 ⟨rfl,hb⟩;refine ⟨_,rfl,?_⟩;have n0_:=Aside0.mk (below_step (by repeat (first|(with_reducible first|exact HB.out|apply below_alloc|apply pw_below_drewN|apply below_drew1)|exact HB.out)) hb);clear HB;have HB:=n0_;clear n0_;(try clear hb);(try clear hb2);(try clear hk);(try clear hi)))
       go_ret
       exact ⟨by first|rfl|(simp <;> rfl)|(simp [*] <;> rfl),by repeat (first|(with_reducible first|exact HB.out|apply below_alloc|apply pw_below_drewN|apply below_drew1)|exact HB.out)⟩
      ·rw [if_neg c7] at H
       have c7b0:decide (t109 < 0) = false:=decide_eq_false c7
       clear c7
       have H':=Aside0.mk H
       clear H
       have p108:0 ≤ (x5_1:Int):=of_decide_eq_true (by first|(with_reducible assumption)|assumption)
       have q108:x5_1 < (l0.length:Int):=of_decide_eq_true (by first|(with_reducible assumption)|assumption)
       obtain ⟨ad108,A108_0,c108_0,A108_1,c108_1,e108,hx108_0,hx108_1,hx108_2,hl108_0,hi108_0,hl108_1,hi108_1⟩:=at_T65 HR0.out x5_1 p108 q108
       cases e108
       replace hx108_0:=(HB.out.cell (World.block_lt_of_cell? w _ hx108_0)).trans hx108_0
       replace hx108_1:=(HB.out.cell (World.block_lt_of_cell? w _ hx108_1)).trans hx108_1
       replace hx108_2:=(HB.out.cell (World.block_lt_of_cell? w _ hx108_2)).trans hx108_2
       have HR108_0:=Aside0.mk hi108_0
       have HC108_0:=Aside0.mk hl108_0
       clear hi108_0 hl108_0
       have HR108_1:=Aside0.mk hi108_1
       have HC108_1:=Aside0.mk hl108_1
       clear hi108_1 hl108_1
       replace p108:=eq_true p108
       replace q108:=eq_true q108
       go_wp2_with (first|((with_reducible refine gate_callee (f:=41) rfl ?_);refine goesL_ (some 23) rfl rfl Try.func41 (by kernel_rfl) rfl #[.agg #[.slice A108_0 ((rd_T65 l0 x5_1).f0).length c108_0, .slice A108_1 ((rd_T65 l0 x5_1).f1).length c108_1, .int .i64 ((rd_T65 l0 x5_1).f2)], .int .i64 x1_1] rfl (by (try simp only [List.map_toArray,List.map_cons,List.map_nil]);first|done|rfl|(simp only [List.length_drop,List.length_take];rfl)) ?_;(with_reducible refine (laws_szGroup.calls k1 _ _ ((rd_T65 l0 x5_1).f0) _ _ ((rd_T65 l0 x5_1).f1) ((rd_T65 l0 x5_1).f2) x1_1 t109 _ ?side1 ?side2 ?side3 ?side4 A6.out).mono ?_);(case side1=>repeat (first|exact (Kd.C_below HR108_0.out HB.out)|(with_reducible refine Kd.C_alloc ?_ _)|(with_reducible refine Kd.C_drewN ?_ _)|(with_reducible refine Kd.C_drew ?_)));(case side2=>exact HC108_0.out);(case side3=>repeat (first|exact (Kd.C_below HR108_1.out HB.out)|(with_reducible refine Kd.C_alloc ?_ _)|(with_reducible refine Kd.C_drewN ?_ _)|(with_reducible refine Kd.C_drew ?_)));(case side4=>exact HC108_1.out);rintro e w9 ⟨rfl,hb⟩;refine ⟨_,rfl,?_⟩;have n0_:=Aside0.mk (below_step (by repeat (first|(with_reducible first|exact HB.out|apply below_alloc|apply pw_below_drewN|apply below_drew1)|exact HB.out)) hb);clear HB;have HB:=n0_;clear n0_;(try clear hb);(try clear hb2);(try clear hk);(try clear hi)))
       go_roundg k1
       case measure=>have:=HK1.out;omega
       case rel=>exact ⟨(t109),(wrap64 (x5_1 + 1)),(by first|rfl|(simp;done)|(simp only [i64_w,i32_w];done)|(simp only [i64_w,i32_w];rfl)|(simp [*];done)|(simp [emp_bne,emp_beq];done)),(by first|rfl|(simp;done)|(simp only [i64_w,i32_w];done)|(simp only [i64_w,i32_w];rfl)|(simp [*];done)|(simp [emp_bne,emp_beq];done)),H',⟨by have:=HK1.out;omega⟩,⟨by repeat (first|(with_reducible first|exact HB.out|apply below_alloc|apply pw_below_drewN|apply below_drew1)|exact HB.out)⟩⟩
     ·rw [if_neg c5] at H
      exact absurd H (by simp)
    ·rw [if_neg c4] at H
     have c4b0:decide (x5_1 < (l0.length:Int)) = false:=decide_eq_false c4
     clear c4
     obtain rfl:=Option.some.inj H
     go_wp2
     go_ret
     exact ⟨by first|rfl|(simp <;> rfl)|(simp [*] <;> rfl),by repeat (first|(with_reducible first|exact HB.out|apply below_alloc|apply pw_below_drewN|apply below_drew1)|exact HB.out)⟩

/-! ### laws_toStringS: function 58 -/
def laws_toStringS.l0:Nat → List ByteArray → List ByteArray → Int → Option (List ByteArray)
 | 0,_,_,_=>none
 | k + 1,x0,x3,x4=>if x4 < (x0.length:Int) then (if 0 ≤ x4 then (if x4 < (x3.length:Int) then (laws_toStringS.l0 k x0 (x3.set (x4:Int).toNat (rdOf ByteArray.empty x0 x4)) (wrap64 (x4 + 1))) else (none)) else (none)) else (some x3)
def laws_toStringS.f (k:Nat) (l0:List ByteArray):Option (List ByteArray):=if 0 ≤ (l0.length:Int) then (if ((l0.length:Int):Int).toNat ≤ 17592186044416 then (laws_toStringS.l0 k l0 (List.replicate ((l0.length:Int):Int).toNat (⟨#[]⟩:ByteArray)) 0) else (none)) else (none)
theorem laws_toStringS.mono_l:∀ k,(∀ y0 y1 y2,LeO (laws_toStringS.l0 k y0 y1 y2) (laws_toStringS.l0 (k + 1) y0 y1 y2))
 | 0=>fun _ _ _ r h=>by simp [laws_toStringS.l0] at h
 | k + 1=>by
  have ih0:=laws_toStringS.mono_l k
  ·intro y0 y1 y2
   unfold laws_toStringS.l0
   repeat' first
   | (with_reducible exact ih0 _ _ _)
   | (with_reducible exact LeO.refl _)
   | (with_reducible exact LeO.none _)
   | (with_reducible refine LeO.ite ?_ ?_)
   | (with_reducible refine LeO.bind ?_ (fun _=>?_))
   | exact ih0 _ _ _
   | exact LeO.none _
   | refine LeO.ite ?_ ?_
   | refine LeO.bind ?_ (fun _=>?_)
theorem laws_toStringS.mono:∀ a0 k,LeO (laws_toStringS.f k a0) (laws_toStringS.f (k + 1) a0):=by
 intro a0 k
 have ih0:=laws_toStringS.mono_l k
 unfold laws_toStringS.f
 repeat' first
   | (with_reducible exact ih0 _ _ _)
   | (with_reducible exact LeO.refl _)
   | (with_reducible exact LeO.none _)
   | (with_reducible refine LeO.ite ?_ ?_)
   | (with_reducible refine LeO.bind ?_ (fun _=>?_))
   | exact ih0 _ _ _
   | exact LeO.none _
   | refine LeO.ite ?_ ?_
   | refine LeO.bind ?_ (fun _=>?_)
theorem laws_toStringS.calls (k:Nat) (A0:Option Addr) (c0:Nat) (l0:List ByteArray) (r:List ByteArray) (w:World) (hr0:Kd.C Kd.string w A0 l0.length l0) (hc0:l0.length ≤ c0) (h:laws_toStringS.f k l0 = some r) :
  Calls Try.prog 58 #[.slice A0 l0.length c0] w fun e w'=>∃ v0_:Value,e = .returned (v0_) ∧ Kd.R Kd.string 9 w' w.heap.size (fun _=>True) v0_ r ∧ Below w.heap.size w w':=by
 have HR0:=Aside0.mk hr0
 have HC0:=Aside0.mk hc0
 clear hr0 hc0
 have HB:=Aside0.mk (Below.refl w.heap.size w)
 have H:(if 0 ≤ (l0.length:Int) then (if ((l0.length:Int):Int).toNat ≤ 17592186044416 then (laws_toStringS.l0 k l0 (List.replicate ((l0.length:Int):Int).toNat (⟨#[]⟩:ByteArray)) 0) else (none)) else (none)) = some r:=h
 clear h
 by_cases c2:0 ≤ (l0.length:Int)
 ·rw [if_pos c2] at H
  have c2b0:=eq_true c2
  have c2b1:=decide_eq_true c2
  clear c2
  by_cases c3:((l0.length:Int):Int).toNat ≤ 17592186044416
  ·rw [if_pos c3] at H
   have c3b0:=eq_true c3
   have c3b1:=decide_eq_true c3
   clear c3
   obtain ⟨y110,hy110⟩:∃ y_:List ByteArray,y_ = (List.replicate ((l0.length:Int):Int).toNat (⟨#[]⟩:ByteArray)):=⟨_,rfl⟩
   replace H:(laws_toStringS.l0 k l0 y110 0) = some r:=by first|(rw [hy110];with_reducible exact H)|(have H2_:=(Option.bind_some _ _).symm.trans H;rw [hy110];with_reducible exact H2_)|(have H2_:=(Option.bind_some _ _).symm.trans H;with_reducible exact H2_)|with_reducible exact H|(rw [hy110];exact H)|exact H
   have Ny110:=Aside0.mk hy110
   clear hy110
   have H':=Aside0.mk H
   clear H
   go_enter Try.func58,Try.ntmps58
   go_wp2_with (first|((with_reducible refine gate_dst (N:=7) rfl ?_);refine Kd.R_make Kd.string _ 9 rfl (N:=7) rfl 27 _ _ rfl (l0.length:Int) rfl rfl Try.underlying27 (.string ⟨#[]⟩) 16 info9 rfl (by decide) (by omega) (⟨#[]⟩:ByteArray) (ok:=fun _=>True) (okp:=fun _=>True) rfl (fun _ hk=>hk) trivial (of_decide_eq_true (by first|(with_reducible assumption)|assumption)) (Nat.le_trans (Nat.mul_le_mul_right _ (of_decide_eq_true (by first|(with_reducible assumption)|assumption):(l0.length:Int).toNat ≤ 17592186044416)) (by omega)) (Below.refl _ _) (Nat.le_refl _) ?_;intro v111 w4 ho5 hb hg_ hnew_;clear hg_ hnew_;(first|rw [← Ny110.out] at ho5|(simp only [Int.reduceToNat] at ho5;rw [← Ny110.out] at ho5));have n0_:=Aside0.mk (Kd.R_lower ho5 (below_size (by repeat (first|(with_reducible first|exact HB.out|apply below_alloc|apply pw_below_drewN|apply below_drew1)|exact HB.out))));have n1_:=Aside0.mk (below_step (by repeat (first|(with_reducible first|exact HB.out|apply below_alloc|apply pw_below_drewN|apply below_drew1)|exact HB.out)) hb);clear HB;have HO112:=n0_;have HB:=n1_;clear n0_ n1_;clear hb ho5))
   go_loopg [4] k (fun kq v4 w'=>∃ (x3_1:List ByteArray) (x4_1:Int),v4 = .int .i64 x4_1 ∧ Aside0 (laws_toStringS.l0 kq l0 x3_1 x4_1 = some r) ∧ Aside0 (kq ≤ k) ∧ Aside0 (Kd.R Kd.string 9 w' w.heap.size (fun _=>True) v111 x3_1) ∧ Aside0 (Below w.heap.size w w'))
   case atStart=>exact ⟨(y110),(0),(by first|rfl|(simp;done)|(simp only [i64_w,i32_w];done)|(simp only [i64_w,i32_w];rfl)|(simp [*];done)|(simp [emp_bne,emp_beq];done)),H',⟨Nat.le_refl _⟩,⟨by (with_reducible repeat (first|apply Kd.R_alloc|apply Kd.R_drewN|apply Kd.R_drew));exact HO112.out⟩,⟨by repeat (first|(with_reducible first|exact HB.out|apply below_alloc|apply pw_below_drewN|apply below_drew1)|exact HB.out)⟩⟩
   case round =>
    clear H'
    try clear c2
    try clear c2b0
    try clear c2b1
    try clear p2
    try clear c3
    try clear c3b0
    try clear c3b1
    try clear c5
    obtain ⟨x3_1,x4_1,rfl,HA,HK1,HO_3,HB⟩:=hrel
    cases gk with
    | zero=>exact absurd HA.out (by simp [laws_toStringS.l0])
    | succ k1 =>
     have H:=HA.out
     clear HA
     simp only [laws_toStringS.l0] at H
     by_cases c6:x4_1 < (l0.length:Int)
     ·rw [if_pos c6] at H
      have c6b0:decide (x4_1 < (l0.length:Int)) = true:=decide_eq_true c6
      clear c6
      by_cases c7:0 ≤ x4_1
      ·rw [if_pos c7] at H
       have c7b0:decide (0 ≤ x4_1) = true:=decide_eq_true c7
       clear c7
       by_cases c8:x4_1 < (x3_1.length:Int)
       ·rw [if_pos c8] at H
        have c8b0:decide (x4_1 < (x3_1.length:Int)) = true:=decide_eq_true c8
        clear c8
        obtain ⟨y114,hy114⟩:∃ y_:List ByteArray,y_ = (x3_1.set (x4_1:Int).toNat (rdOf ByteArray.empty l0 x4_1)):=⟨_,rfl⟩
        replace H:(laws_toStringS.l0 k1 l0 y114 (wrap64 (x4_1 + 1))) = some r:=by first|(rw [hy114];with_reducible exact H)|(have H2_:=(Option.bind_some _ _).symm.trans H;rw [hy114];with_reducible exact H2_)|(have H2_:=(Option.bind_some _ _).symm.trans H;with_reducible exact H2_)|with_reducible exact H|(rw [hy114];exact H)|exact H
        have Ny114:=Aside0.mk hy114
        clear hy114
        have H':=Aside0.mk H
        clear H
        have p113:0 ≤ (x4_1:Int):=of_decide_eq_true (by first|(with_reducible assumption)|assumption)
        have q113:x4_1 < (l0.length:Int):=of_decide_eq_true (by first|(with_reducible assumption)|assumption)
        obtain ⟨ad113,e113,hx113_0⟩:=Kd.at_string HR0.out x4_1 p113 q113
        cases e113
        replace hx113_0:=(HB.out.cell (World.block_lt_of_cell? w _ hx113_0)).trans hx113_0
        replace p113:=eq_true p113
        replace q113:=eq_true q113
        have p9:0 ≤ (x4_1:Int):=of_decide_eq_true (by first|(with_reducible assumption)|assumption)
        have q9:(x4_1:Int) < ((x3_1.length:Int):Int):=of_decide_eq_true (by first|(with_reducible assumption)|assumption)
        obtain ⟨go9,co9,eo9,gb9,gl9,cl9,HG9⟩:=Kd.R_form HO_3.out (by omega)
        (first|cases eo9|(injection eo9 with ea_ en_ ec_;(first|subst ea_|(injection ea_ with ea_;subst ea_));subst ec_;clear en_))
        have GB9:=Aside0.mk gb9
        have GG9:=Aside0.mk HG9
        clear gb9 gl9 HG9
        obtain ⟨hx9_0,hf9_0⟩:=Kd.R_celln (⟨#[]⟩:ByteArray) HO_3.out (x4_1:Int) p9 q9
        replace p9:=eq_true p9
        replace q9:=eq_true q9
        have HP10:=Kd.R_putg HO_3.out (x4_1:Int) (rdOf ByteArray.empty l0 x4_1)
        go_wp2_with (first|((with_reducible refine gate_store (t:=9) (p:=20) rfl ?_);refine store_event (t:=9) (p:=20) (v:=?vo_w11) (w1:=(wr.setCell ⟨go9,(x4_1:Int).toNat,none⟩ (.string (rdOf ByteArray.empty l0 x4_1)))) ?hg ?ho ?hn ?hr ?_;(case ho=>rfl);(case hg=>rfl);(case hn=>rfl);(case hr=>first|(go_simp;done)|(go_simp;rfl));intro w11 hw;have hg:wr.grownBy w11 (some go9):=(by rw [hw];exact HP10.2);have hp_:Kd.R Kd.string 9 w11 w.heap.size (fun _=>True) (.slice (some ⟨go9,0,none⟩) x3_1.length co9) y114:=(by rw [hw,Ny114.out];exact HP10.1);clear HP10;have n0_:=Aside0.mk (hp_);have n1_:=Aside0.mk ((by rw [hw];exact below_set (HB.out) GB9.out:Below w.heap.size w w11));clear HO_3;clear HB;have HO_3:=n0_;have HB:=n1_;clear n0_ n1_;clear hg hw hp_))
        go_roundg k1
        case measure=>have:=HK1.out;omega
        case rel=>exact ⟨(y114),(wrap64 (x4_1 + 1)),(by first|rfl|(simp;done)|(simp only [i64_w,i32_w];done)|(simp only [i64_w,i32_w];rfl)|(simp [*];done)|(simp [emp_bne,emp_beq];done)),H',⟨by have:=HK1.out;omega⟩,⟨by (with_reducible repeat (first|apply Kd.R_alloc|apply Kd.R_drewN|apply Kd.R_drew));exact HO_3.out⟩,⟨by repeat (first|(with_reducible first|exact HB.out|apply below_alloc|apply pw_below_drewN|apply below_drew1)|exact HB.out)⟩⟩
       ·rw [if_neg c8] at H
        exact absurd H (by simp)
      ·rw [if_neg c7] at H
       exact absurd H (by simp)
     ·rw [if_neg c6] at H
      have c6b0:decide (x4_1 < (l0.length:Int)) = false:=decide_eq_false c6
      clear c6
      obtain rfl:=Option.some.inj H
      go_wp2
      go_ret
      exact ⟨_,by first|rfl|(simp <;> rfl)|(simp [*] <;> rfl),by (with_reducible repeat (first|apply Kd.R_alloc|apply Kd.R_drewN|apply Kd.R_drew));exact HO_3.out,by repeat (first|(with_reducible first|exact HB.out|apply below_alloc|apply pw_below_drewN|apply below_drew1)|exact HB.out)⟩
  ·rw [if_neg c3] at H
   exact absurd H (by simp)
 ·rw [if_neg c2] at H
  exact absurd H (by simp)

/-! ### laws_toRule: function 66 -/
def laws_toRule.f (a0_0:Bool) (a0_1:ByteArray):Option (Bool × ByteArray):=some (a0_0,a0_1)
theorem laws_toRule.calls (a0_0:Bool) (a0_1:ByteArray) (r1:Bool) (r2:ByteArray) (w:World) (h:laws_toRule.f a0_0 a0_1 = some (r1,r2)) :
  Calls Try.prog 66 #[.agg #[.bool a0_0, .string a0_1]] w fun e w'=>e = .returned (.agg #[.bool r1, .string r2]) ∧ Below w.heap.size w w':=by
 have hu83:=Try.underlying83
 have hu57:=Try.underlying57
 have HB:=Aside0.mk (Below.refl w.heap.size w)
 have H:(some (a0_0,a0_1)) = some (r1,r2):=h
 clear h
 simp only [Option.some.injEq,Prod.mk.injEq] at H
 obtain ⟨rfl,rfl⟩:=H
 go_enter Try.func66,Try.ntmps66
 go_wp2_with (first|((with_reducible refine gate_dst (N:=1) rfl ?_);refine box_event ?hg (N:=1) ?hd (cs:=#[.bool a0_0, .string a0_1]) (t:=83) ?hr ?_;(case hd=>rfl);(case hg=>rfl);(case hr=>first|(go_simp;done)|(go_simp;rfl));intro gb115 hg w2 hbox hb;have n0_:=Aside0.mk (below_step (by repeat (first|(with_reducible first|exact HB.out|apply below_alloc|apply pw_below_drewN|apply below_drew1)|exact HB.out)) hb);have n1_:=Aside0.mk (hbox);have n2_:=Aside0.mk ((by rw [hg];exact (below_size (by repeat (first|(with_reducible first|exact HB.out|apply below_alloc|apply pw_below_drewN|apply below_drew1)|exact HB.out))):w.heap.size ≤ gb115));have n3_:=n2_;clear HB;have HB:=n0_;have BK115:=n1_;have GW115:=n2_;have GE115:=n3_;clear n0_ n1_ n2_ n3_;clear hb hbox hg)|((with_reducible refine gate_dst (N:=2) rfl ?_);refine box_event ?hg (N:=2) ?hd (cs:=#[.bool false, .string (⟨#[]⟩:ByteArray)]) (t:=57) ?hr ?_;(case hd=>rfl);(case hg=>rfl);(case hr=>first|(go_simp;done)|(go_simp;rfl));intro gb116 hg w3 hbox hb;have n0_:=Aside0.mk (blk_below (g:=gb115) (o:=.cells #[.bool a0_0, .string a0_1] 83 (0,0)) (by (with_reducible repeat (first|refine blk_drewN ?_ _|refine blk_drew ?_|refine blk_alloc ?_ _));exact BK115.out) hb);have n1_:=Aside0.mk (below_step (by repeat (first|(with_reducible first|exact HB.out|apply below_alloc|apply pw_below_drewN|apply below_drew1|refine below_set ?_ GE115.out)|exact HB.out)) hb);have n2_:=Aside0.mk (hbox);have n3_:=Aside0.mk ((by rw [hg];exact (below_size (by repeat (first|(with_reducible first|exact HB.out|apply below_alloc|apply pw_below_drewN|apply below_drew1|refine below_set ?_ GE115.out)|exact HB.out))):w.heap.size ≤ gb116));have n4_:=n3_;have n5_:=Aside0.mk ((by rw [hg];exact Nat.ne_of_lt (blk_lt (g:=gb115) (o:=.cells #[.bool a0_0, .string a0_1] 83 (0,0)) (by (with_reducible repeat (first|refine blk_drewN ?_ _|refine blk_drew ?_|refine blk_alloc ?_ _));exact BK115.out)):gb115 ≠ gb116));have n6_:=Aside0.mk ((by rw [hg];exact Nat.ne_of_gt (blk_lt (g:=gb115) (o:=.cells #[.bool a0_0, .string a0_1] 83 (0,0)) (by (with_reducible repeat (first|refine blk_drewN ?_ _|refine blk_drew ?_|refine blk_alloc ?_ _));exact BK115.out)):gb116 ≠ gb115));clear BK115;clear HB;have BK115:=n0_;have HB:=n1_;have BK116:=n2_;have GW116:=n3_;have GE116:=n4_;have NB115_116:=n5_;have NB116_115:=n6_;clear n0_ n1_ n2_ n3_ n4_ n5_ n6_;clear hb hbox hg)|((with_reducible refine gate_dst (N:=3) rfl ?_);refine box_event ?hg (N:=3) ?hd (cs:=#[.bool false, .string (⟨#[]⟩:ByteArray)]) (t:=57) ?hr ?_;(case hd=>rfl);(case hg=>rfl);(case hr=>first|(go_simp;done)|(go_simp;rfl));intro gb117 hg w4 hbox hb;have n0_:=Aside0.mk (blk_below (g:=gb115) (o:=.cells #[.bool a0_0, .string a0_1] 83 (0,0)) (by (with_reducible repeat (first|refine blk_drewN ?_ _|refine blk_drew ?_|refine blk_alloc ?_ _));exact BK115.out) hb);have n1_:=Aside0.mk (blk_below (g:=gb116) (o:=.cells #[.bool false, .string (⟨#[]⟩:ByteArray)] 57 (0,0)) (by (with_reducible repeat (first|refine blk_drewN ?_ _|refine blk_drew ?_|refine blk_alloc ?_ _));exact BK116.out) hb);have n2_:=Aside0.mk (below_step (by repeat (first|(with_reducible first|exact HB.out|apply below_alloc|apply pw_below_drewN|apply below_drew1|refine below_set ?_ GE115.out|refine below_set ?_ GE116.out)|exact HB.out)) hb);have n3_:=Aside0.mk (hbox);have n4_:=Aside0.mk ((by rw [hg];exact (below_size (by repeat (first|(with_reducible first|exact HB.out|apply below_alloc|apply pw_below_drewN|apply below_drew1|refine below_set ?_ GE115.out|refine below_set ?_ GE116.out)|exact HB.out))):w.heap.size ≤ gb117));have n5_:=n4_;have n6_:=Aside0.mk ((by rw [hg];exact Nat.ne_of_lt (blk_lt (g:=gb115) (o:=.cells #[.bool a0_0, .string a0_1] 83 (0,0)) (by (with_reducible repeat (first|refine blk_drewN ?_ _|refine blk_drew ?_|refine blk_alloc ?_ _));exact BK115.out)):gb115 ≠ gb117));have n7_:=Aside0.mk ((by rw [hg];exact Nat.ne_of_gt (blk_lt (g:=gb115) (o:=.cells #[.bool a0_0, .string a0_1] 83 (0,0)) (by (with_reducible repeat (first|refine blk_drewN ?_ _|refine blk_drew ?_|refine blk_alloc ?_ _));exact BK115.out)):gb117 ≠ gb115));have n8_:=Aside0.mk ((by rw [hg];exact Nat.ne_of_lt (blk_lt (g:=gb116) (o:=.cells #[.bool false, .string (⟨#[]⟩:ByteArray)] 57 (0,0)) (by (with_reducible repeat (first|refine blk_drewN ?_ _|refine blk_drew ?_|refine blk_alloc ?_ _));exact BK116.out)):gb116 ≠ gb117));have n9_:=Aside0.mk ((by rw [hg];exact Nat.ne_of_gt (blk_lt (g:=gb116) (o:=.cells #[.bool false, .string (⟨#[]⟩:ByteArray)] 57 (0,0)) (by (with_reducible repeat (first|refine blk_drewN ?_ _|refine blk_drew ?_|refine blk_alloc ?_ _));exact BK116.out)):gb117 ≠ gb116));clear BK115;clear BK116;clear HB;have BK115:=n0_;have BK116:=n1_;have HB:=n2_;have BK117:=n3_;have GW117:=n4_;have GE117:=n5_;have NB115_117:=n6_;have NB117_115:=n7_;have NB116_117:=n8_;have NB117_116:=n9_;clear n0_ n1_ n2_ n3_ n4_ n5_ n6_ n7_ n8_ n9_;clear hb hbox hg;have hnb5:=NB115_116.out;have hnc5:=NB116_115.out;have hnb6:=NB115_117.out;have hnc6:=NB117_115.out;have hcz7_0:w4.cell? ⟨gb115,0,none⟩ = some (.bool a0_0):=(blk_cell BK115.out 0).trans rfl;have hcz7_1:w4.cell? ⟨gb115,1,none⟩ = some (.string a0_1):=(blk_cell BK115.out 1).trans rfl;have hfz7_0:=blk_frozen BK115.out 0;have hfz7_1:=blk_frozen BK115.out 1;have hnb8:=NB117_116.out;have hnc8:=NB116_117.out;have hcz9_0:w4.cell? ⟨gb117,0,none⟩ = some (.bool false):=(blk_cell BK117.out 0).trans rfl;have hcz9_1:w4.cell? ⟨gb117,1,none⟩ = some (.string (⟨#[]⟩:ByteArray)):=(blk_cell BK117.out 1).trans rfl;have hfz9_0:=blk_frozen BK117.out 0;have hfz9_1:=blk_frozen BK117.out 1;have hcz10_0:w4.cell? ⟨gb116,0,none⟩ = some (.bool false):=(blk_cell BK116.out 0).trans rfl;have hcz10_1:w4.cell? ⟨gb116,1,none⟩ = some (.string (⟨#[]⟩:ByteArray)):=(blk_cell BK116.out 1).trans rfl;have hfz10_0:=blk_frozen BK116.out 0;have hfz10_1:=blk_frozen BK116.out 1))
 refine bodyPost_ret (results_cell_row rfl _ _ gb116 57 #[.bool a0_0, .string a0_1] (0,0) _ rfl (by (with_reducible repeat (first|refine blk_drewN ?_ _|refine blk_drew ?_|refine blk_alloc ?_ _));refine blk_put (cs:=#[.bool a0_0, .string (⟨#[]⟩:ByteArray)]) ?_ 1 _ rfl;(with_reducible repeat (first|refine blk_drewN ?_ _|refine blk_drew ?_|refine blk_alloc ?_ _));refine blk_put (cs:=#[.bool false, .string (⟨#[]⟩:ByteArray)]) ?_ 0 _ rfl;(with_reducible repeat (first|refine blk_drewN ?_ _|refine blk_drew ?_|refine blk_alloc ?_ _));refine blk_far ?_ NB116_117.out _;(with_reducible repeat (first|refine blk_drewN ?_ _|refine blk_drew ?_|refine blk_alloc ?_ _));refine blk_far ?_ NB116_117.out _;(with_reducible repeat (first|refine blk_drewN ?_ _|refine blk_drew ?_|refine blk_alloc ?_ _));exact BK116.out) Try.underlying57 rfl (by kernel_rfl)) rfl ?_
 exact ⟨by first|rfl|(simp <;> rfl)|(simp [*] <;> rfl),by repeat (first|(with_reducible first|exact HB.out|apply below_alloc|apply pw_below_drewN|apply below_drew1|refine below_set ?_ GE115.out|refine below_set ?_ GE116.out|refine below_set ?_ GE117.out)|exact HB.out)⟩

/-! ### laws_toRuleS: function 59 -/
def laws_toRuleS.l0:Nat → List (S83) → List (S57) → Int → Option ((List (S57)))
 | 0,_,_,_=>none
 | k + 1,x0,x3,x4=>if x4 < (x0.length:Int) then (if 0 ≤ x4 then ((laws_toRule.f ((rd_T83 x0 x4).f0) ((rd_T83 x0 x4).f1)).bind fun bt122=>(if x4 < (x3.length:Int) then (laws_toRuleS.l0 k x0 (x3.set (x4:Int).toNat (⟨bt122.1,bt122.2⟩:S57)) (wrap64 (x4 + 1))) else (none))) else (none)) else (some x3)
def laws_toRuleS.f (k:Nat) (l0:List (S83)):Option ((List (S57))):=if 0 ≤ (l0.length:Int) then (if ((l0.length:Int):Int).toNat ≤ 11728124029610 then (laws_toRuleS.l0 k l0 (List.replicate ((l0.length:Int):Int).toNat z57) 0) else (none)) else (none)
theorem laws_toRuleS.mono_l:∀ k,(∀ y0 y1 y2,LeO (laws_toRuleS.l0 k y0 y1 y2) (laws_toRuleS.l0 (k + 1) y0 y1 y2))
 | 0=>fun _ _ _ r h=>by simp [laws_toRuleS.l0] at h
 | k + 1=>by
  have ih0:=laws_toRuleS.mono_l k
  ·intro y0 y1 y2
   unfold laws_toRuleS.l0
   repeat' first
   | (with_reducible exact ih0 _ _ _)
   | (with_reducible exact LeO.refl _)
   | (with_reducible exact LeO.none _)
   | (with_reducible refine LeO.ite ?_ ?_)
   | (with_reducible refine LeO.bind ?_ (fun _=>?_))
   | exact ih0 _ _ _
   | exact LeO.none _
   | refine LeO.ite ?_ ?_
   | refine LeO.bind ?_ (fun _=>?_)
theorem laws_toRuleS.mono:∀ a0 k,LeO (laws_toRuleS.f k a0) (laws_toRuleS.f (k + 1) a0):=by
 intro a0 k
 have ih0:=laws_toRuleS.mono_l k
 unfold laws_toRuleS.f
 repeat' first
   | (with_reducible exact ih0 _ _ _)
   | (with_reducible exact LeO.refl _)
   | (with_reducible exact LeO.none _)
   | (with_reducible refine LeO.ite ?_ ?_)
   | (with_reducible refine LeO.bind ?_ (fun _=>?_))
   | exact ih0 _ _ _
   | exact LeO.none _
   | refine LeO.ite ?_ ?_
   | refine LeO.bind ?_ (fun _=>?_)
theorem laws_toRuleS.calls (k:Nat) (A0:Option Addr) (c0:Nat) (l0:List (S83)) (r:List (S57)) (w:World) (hr0:Kd.C k83 w A0 l0.length l0) (hc0:l0.length ≤ c0) (h:laws_toRuleS.f k l0 = some r) :
  Calls Try.prog 59 #[.slice A0 l0.length c0] w fun e w'=>∃ v0_:Value,e = .returned (v0_) ∧ Kd.R k57 57 w' w.heap.size (fun _=>True) v0_ r ∧ Below w.heap.size w w':=by
 have hu83:=Try.underlying83
 have hu57:=Try.underlying57
 have HR0:=Aside0.mk hr0
 have HC0:=Aside0.mk hc0
 clear hr0 hc0
 have HB:=Aside0.mk (Below.refl w.heap.size w)
 have H:(if 0 ≤ (l0.length:Int) then (if ((l0.length:Int):Int).toNat ≤ 11728124029610 then (laws_toRuleS.l0 k l0 (List.replicate ((l0.length:Int):Int).toNat z57) 0) else (none)) else (none)) = some r:=h
 clear h
 by_cases c2:0 ≤ (l0.length:Int)
 ·rw [if_pos c2] at H
  have c2b0:=eq_true c2
  have c2b1:=decide_eq_true c2
  clear c2
  by_cases c3:((l0.length:Int):Int).toNat ≤ 11728124029610
  ·rw [if_pos c3] at H
   have c3b0:=eq_true c3
   have c3b1:=decide_eq_true c3
   clear c3
   obtain ⟨y118,hy118⟩:∃ y_:List (S57),y_ = (List.replicate ((l0.length:Int):Int).toNat z57):=⟨_,rfl⟩
   replace H:(laws_toRuleS.l0 k l0 y118 0) = some r:=by first|(rw [hy118];with_reducible exact H)|(have H2_:=(Option.bind_some _ _).symm.trans H;rw [hy118];with_reducible exact H2_)|(have H2_:=(Option.bind_some _ _).symm.trans H;with_reducible exact H2_)|with_reducible exact H|(rw [hy118];exact H)|exact H
   have Ny118:=Aside0.mk hy118
   clear hy118
   have H':=Aside0.mk H
   clear H
   go_enter Try.func59,Try.ntmps59
   go_wp2_with (first|((with_reducible refine gate_dst (N:=7) rfl ?_);refine Kd.R_make k57 _ 57 rfl (N:=7) rfl 28 _ _ rfl (l0.length:Int) rfl rfl Try.underlying28 (.agg #[(.bool false),(.string ⟨#[]⟩)]) 24 info57 rfl (by decide) (by omega) z57 (ok:=fun _=>True) (okp:=fun _=>True) (k57_mkM _ _ _ z57 ) (fun _ hk=>hk) trivial (of_decide_eq_true (by first|(with_reducible assumption)|assumption)) (Nat.le_trans (Nat.mul_le_mul_right _ (of_decide_eq_true (by first|(with_reducible assumption)|assumption):(l0.length:Int).toNat ≤ 11728124029610)) (by omega)) (Below.refl _ _) (Nat.le_refl _) ?_;intro v119 w4 ho5 hb hg_ hnew_;clear hg_ hnew_;(first|rw [← Ny118.out] at ho5|(simp only [Int.reduceToNat] at ho5;rw [← Ny118.out] at ho5));have n0_:=Aside0.mk (Kd.R_lower ho5 (below_size (by repeat (first|(with_reducible first|exact HB.out|apply below_alloc|apply pw_below_drewN|apply below_drew1)|exact HB.out))));have n1_:=Aside0.mk (below_step (by repeat (first|(with_reducible first|exact HB.out|apply below_alloc|apply pw_below_drewN|apply below_drew1)|exact HB.out)) hb);clear HB;have HO120:=n0_;have HB:=n1_;clear n0_ n1_;clear hb ho5))
   go_loopg [4] k (fun kq v4 w'=>∃ (x3_1:List (S57)) (x4_1:Int),v4 = .int .i64 x4_1 ∧ Aside0 (laws_toRuleS.l0 kq l0 x3_1 x4_1 = some r) ∧ Aside0 (kq ≤ k) ∧ Aside0 (Kd.R k57 57 w' w.heap.size (fun _=>True) v119 x3_1) ∧ Aside0 (Below w.heap.size w w'))
   case atStart=>exact ⟨(y118),(0),(by first|rfl|(simp;done)|(simp only [i64_w,i32_w];done)|(simp only [i64_w,i32_w];rfl)|(simp [*];done)|(simp [emp_bne,emp_beq];done)),H',⟨Nat.le_refl _⟩,⟨by (with_reducible repeat (first|apply Kd.R_alloc|apply Kd.R_drewN|apply Kd.R_drew));exact HO120.out⟩,⟨by repeat (first|(with_reducible first|exact HB.out|apply below_alloc|apply pw_below_drewN|apply below_drew1)|exact HB.out)⟩⟩
   case round =>
    clear H'
    try clear c2
    try clear c2b0
    try clear c2b1
    try clear p2
    try clear c3
    try clear c3b0
    try clear c3b1
    try clear c5
    obtain ⟨x3_1,x4_1,rfl,HA,HK1,HO_3,HB⟩:=hrel
    cases gk with
    | zero=>exact absurd HA.out (by simp [laws_toRuleS.l0])
    | succ k1 =>
     have H:=HA.out
     clear HA
     simp only [laws_toRuleS.l0] at H
     by_cases c6:x4_1 < (l0.length:Int)
     ·rw [if_pos c6] at H
      have c6b0:decide (x4_1 < (l0.length:Int)) = true:=decide_eq_true c6
      clear c6
      by_cases c7:0 ≤ x4_1
      ·rw [if_pos c7] at H
       have c7b0:decide (0 ≤ x4_1) = true:=decide_eq_true c7
       clear c7
       replace H:=Option.bind_eq_some_iff.mp H
       obtain ⟨⟨t122,t123⟩,A80,H⟩:=H
       replace H:(if x4_1 < (x3_1.length:Int) then (laws_toRuleS.l0 k1 l0 (x3_1.set (x4_1:Int).toNat (⟨t122,t123⟩:S57)) (wrap64 (x4_1 + 1))) else (none)) = some r:=H
       have A8:=Aside0.mk A80
       clear A80
       by_cases c9:x4_1 < (x3_1.length:Int)
       ·rw [if_pos c9] at H
        have c9b0:decide (x4_1 < (x3_1.length:Int)) = true:=decide_eq_true c9
        clear c9
        obtain ⟨y124,hy124⟩:∃ y_:List (S57),y_ = (x3_1.set (x4_1:Int).toNat (⟨t122,t123⟩:S57)):=⟨_,rfl⟩
        replace H:(laws_toRuleS.l0 k1 l0 y124 (wrap64 (x4_1 + 1))) = some r:=by first|(rw [hy124];with_reducible exact H)|(have H2_:=(Option.bind_some _ _).symm.trans H;rw [hy124];with_reducible exact H2_)|(have H2_:=(Option.bind_some _ _).symm.trans H;with_reducible exact H2_)|with_reducible exact H|(rw [hy124];exact H)|exact H
        have Ny124:=Aside0.mk hy124
        clear hy124
        have H':=Aside0.mk H
        clear H
        have p121:0 ≤ (x4_1:Int):=of_decide_eq_true (by first|(with_reducible assumption)|assumption)
        have q121:x4_1 < (l0.length:Int):=of_decide_eq_true (by first|(with_reducible assumption)|assumption)
        obtain ⟨ad121,e121,hx121_0,hx121_1⟩:=at_T83 HR0.out x4_1 p121 q121
        cases e121
        replace hx121_0:=(HB.out.cell (World.block_lt_of_cell? w _ hx121_0)).trans hx121_0
        replace hx121_1:=(HB.out.cell (World.block_lt_of_cell? w _ hx121_1)).trans hx121_1
        replace p121:=eq_true p121
        replace q121:=eq_true q121
        go_wp2_with (first|((with_reducible refine gate_callee (f:=66) rfl ?_);refine goesL_ (some 20) rfl rfl Try.func66 (by kernel_rfl) rfl #[.agg #[.bool ((rd_T83 l0 x4_1).f0), .string ((rd_T83 l0 x4_1).f1)]] rfl (by (try simp only [List.map_toArray,List.map_cons,List.map_nil]);first|done|rfl|(simp only [List.length_drop,List.length_take];rfl)) ?_;(with_reducible refine (laws_toRule.calls ((rd_T83 l0 x4_1).f0) ((rd_T83 l0 x4_1).f1) t122 t123 _ A8.out).mono ?_);rintro e w11 ⟨rfl,hb⟩;refine ⟨_,rfl,?_⟩;have n0_:=Aside0.mk (Kd.R_below (by (with_reducible repeat (first|apply Kd.R_alloc|apply Kd.R_drewN|apply Kd.R_drew));exact HO_3.out) hb);have n1_:=Aside0.mk (below_step (by repeat (first|(with_reducible first|exact HB.out|apply below_alloc|apply pw_below_drewN|apply below_drew1)|exact HB.out)) hb);clear HO_3;clear HB;have HO_3:=n0_;have HB:=n1_;clear n0_ n1_;(try clear hb);(try clear hb2);(try clear hk);(try clear hi);have p10:0 ≤ (x4_1:Int):=of_decide_eq_true (by first|(with_reducible assumption)|assumption);have q10:(x4_1:Int) < ((x3_1.length:Int):Int):=of_decide_eq_true (by first|(with_reducible assumption)|assumption);obtain ⟨go10,co10,eo10,gb10,gl10,cl10,HG10⟩:=Kd.R_form HO_3.out (by omega);(first|cases eo10|(injection eo10 with ea_ en_ ec_;(first|subst ea_|(injection ea_ with ea_;subst ea_));subst ec_;clear en_));have GB10:=Aside0.mk gb10;have GG10:=Aside0.mk HG10;clear gb10 gl10 HG10;obtain ⟨ce10,hcl10,hM10,hcc10,hfr10⟩:=Kd.R_elem HO_3.out z57 (x4_1:Int) p10 q10;obtain rfl:=k57_openM hM10;have hx10_0:w11.cell? ⟨go10,(x4_1:Int).toNat * 2,none⟩ = some (.bool ((rd_T57 x3_1 x4_1).f0)):=hcc10 0 _ rfl;have hx10_1:w11.cell? ⟨go10,(x4_1:Int).toNat * 2 + 1,none⟩ = some (.string ((rd_T57 x3_1 x4_1).f1)):=hcc10 1 _ rfl;have hf10_0:w11.frozen? ⟨go10,(x4_1:Int).toNat * 2,none⟩ = false:=hfr10 0;have hf10_1:w11.frozen? ⟨go10,(x4_1:Int).toNat * 2 + 1,none⟩ = false:=hfr10 1;clear hcl10 hcc10 hfr10 hM10;replace p10:=eq_true p10;replace q10:=eq_true q10;have HX12:=Aside0.mk (show Kd.R k57 57 w11 w.heap.size (fun _=>True) (.slice (some ⟨go10,0,none⟩) x3_1.length co10) x3_1 from (by (with_reducible repeat (first|apply Kd.R_alloc|apply Kd.R_drewN|apply Kd.R_drew));exact HO_3.out));obtain ⟨ce12,hcl12,hM12,hcc12,hfr12⟩:=Kd.R_elem HX12.out z57 (x4_1:Int) (of_decide_eq_true (by first|(with_reducible assumption)|assumption)) (by have h_:(x4_1:Int) < ((x3_1.length:Int):Int):=of_decide_eq_true (by first|(with_reducible assumption)|assumption);first|exact h_|(have e_:=(Kd.R_reads' HO_3.out).1;omega)|simpa using h_);obtain rfl:=k57_openM hM12;have HP12:=Kd.R_seg HX12.out (x4_1:Int) (of_decide_eq_true (by first|(with_reducible assumption)|assumption)) (by have h_:(x4_1:Int) < ((x3_1.length:Int):Int):=of_decide_eq_true (by first|(with_reducible assumption)|assumption);first|exact h_|(have e_:=(Kd.R_reads' HO_3.out).1;omega)|simpa using h_) (seg:=[.bool t122, .string t123]) (j:=0) hcl12 hcc12 (show 2 ≤ 2 from by decide) (x':=(⟨t122,t123⟩:S57)) (k57_mkM _ _ _ (⟨t122,t123⟩:S57) ) (fun _ hk=>hk);have hx12_0:=hcc12 0 _ rfl;(try simp only [show (k57).sz = 2 from rfl,Nat.mul_one,Nat.add_zero] at hx12_0);have hf12_0:=hfr12 0;(try simp only [show (k57).sz = 2 from rfl,Nat.mul_one,Nat.add_zero] at hf12_0);have hx12_1:=hcc12 1 _ rfl;(try simp only [show (k57).sz = 2 from rfl,Nat.mul_one,Nat.add_zero] at hx12_1);have hf12_1:=hfr12 1;(try simp only [show (k57).sz = 2 from rfl,Nat.mul_one,Nat.add_zero] at hf12_1);clear hcl12 hcc12 hfr12 hM12)|((with_reducible refine gate_store (t:=57) (p:=21) rfl ?_);refine store_event (t:=57) (p:=21) (v:=?vo_w13) (w1:=((w11.setCell ⟨go10,(x4_1:Int).toNat * 2,none⟩ (.bool t122)).setCell ⟨go10,(x4_1:Int).toNat * 2 + 1,none⟩ (.string t123))) ?hg ?ho ?hn ?hr ?_;(case ho=>rfl);(case hg=>rfl);(case hn=>rfl);(case hr=>first|(go_simp;done)|(go_simp;rfl));intro w13 hw;have hg:w11.grownBy w13 (some go10):=(by rw [hw];exact HP12.2);have hp_:Kd.R k57 57 w13 w.heap.size (fun _=>True) (.slice (some ⟨go10,0,none⟩) x3_1.length co10) y124:=(by rw [hw,Ny124.out];exact HP12.1);clear HP12;have n0_:=Aside0.mk (hp_);have n1_:=Aside0.mk ((by rw [hw];exact below_set (below_set (HB.out) GB10.out) GB10.out:Below w.heap.size w w13));clear HO_3;clear HB;have HO_3:=n0_;have HB:=n1_;clear n0_ n1_;clear hg hw hp_))
        go_roundg k1
        case measure=>have:=HK1.out;omega
        case rel=>exact ⟨(y124),(wrap64 (x4_1 + 1)),(by first|rfl|(simp;done)|(simp only [i64_w,i32_w];done)|(simp only [i64_w,i32_w];rfl)|(simp [*];done)|(simp [emp_bne,emp_beq];done)),H',⟨by have:=HK1.out;omega⟩,⟨by (with_reducible repeat (first|apply Kd.R_alloc|apply Kd.R_drewN|apply Kd.R_drew));exact HO_3.out⟩,⟨by repeat (first|(with_reducible first|exact HB.out|apply below_alloc|apply pw_below_drewN|apply below_drew1)|exact HB.out)⟩⟩
       ·rw [if_neg c9] at H
        exact absurd H (by simp)
      ·rw [if_neg c7] at H
       exact absurd H (by simp)
     ·rw [if_neg c6] at H
      have c6b0:decide (x4_1 < (l0.length:Int)) = false:=decide_eq_false c6
      clear c6
      obtain rfl:=Option.some.inj H
      go_wp2
      go_ret
      exact ⟨_,by first|rfl|(simp <;> rfl)|(simp [*] <;> rfl),by (with_reducible repeat (first|apply Kd.R_alloc|apply Kd.R_drewN|apply Kd.R_drew));exact HO_3.out,by repeat (first|(with_reducible first|exact HB.out|apply below_alloc|apply pw_below_drewN|apply below_drew1)|exact HB.out)⟩
  ·rw [if_neg c3] at H
   exact absurd H (by simp)
 ·rw [if_neg c2] at H
  exact absurd H (by simp)

/-! ### laws_toGroup: function 42 -/
def laws_toGroup.f (k:Nat) (l0_0:List ByteArray) (l0_1:List (S83)) (a0_2:Int):Option (List ByteArray × (List (S57)) × Int):=(laws_toStringS.f k l0_0).bind fun t128=>((laws_toRuleS.f k l0_1).bind fun t131=>(some (t128,t131,a0_2)))
theorem laws_toGroup.mono:∀ a0 a1 a2 k,LeO (laws_toGroup.f k a0 a1 a2) (laws_toGroup.f (k + 1) a0 a1 a2):=by
 intro a0 a1 a2 k
 unfold laws_toGroup.f
 repeat' first
   | (with_reducible exact laws_toRuleS.mono _ _)
   | (with_reducible exact laws_toStringS.mono _ _)
   | (with_reducible exact LeO.refl _)
   | (with_reducible exact LeO.none _)
   | (with_reducible refine LeO.ite ?_ ?_)
   | (with_reducible refine LeO.bind ?_ (fun _=>?_))
   | exact laws_toRuleS.mono _ _
   | exact laws_toStringS.mono _ _
   | exact LeO.none _
   | refine LeO.ite ?_ ?_
   | refine LeO.bind ?_ (fun _=>?_)
theorem laws_toGroup.calls (k:Nat) (A0_0:Option Addr) (c0_0:Nat) (l0_0:List ByteArray) (A0_1:Option Addr) (c0_1:Nat) (l0_1:List (S83)) (a0_2:Int) (r1:List ByteArray) (r2:List (S57)) (r3:Int) (w:World) (hr0_0:Kd.C Kd.string w A0_0 l0_0.length l0_0) (hc0_0:l0_0.length ≤ c0_0) (hr0_1:Kd.C k83 w A0_1 l0_1.length l0_1) (hc0_1:l0_1.length ≤ c0_1) (h:laws_toGroup.f k l0_0 l0_1 a0_2 = some (r1,r2,r3)) :
  Calls Try.prog 42 #[.agg #[.slice A0_0 l0_0.length c0_0, .slice A0_1 l0_1.length c0_1, .int .i64 a0_2]] w fun e w'=>∃ v0_ v1_:Value,e = .returned (.agg #[v0_,v1_, .int .i64 r3]) ∧ Kd.R Kd.string 9 w' w.heap.size (fun _=>True) v0_ r1 ∧ Kd.R k57 57 w' w.heap.size (fun _=>True) v1_ r2 ∧ Below w.heap.size w w':=by
 have hu65:=Try.underlying65
 have hu30:=Try.underlying30
 have HR0_0:=Aside0.mk hr0_0
 have HC0_0:=Aside0.mk hc0_0
 clear hr0_0 hc0_0
 have HR0_1:=Aside0.mk hr0_1
 have HC0_1:=Aside0.mk hc0_1
 clear hr0_1 hc0_1
 have HB:=Aside0.mk (Below.refl w.heap.size w)
 have H:((laws_toStringS.f k l0_0).bind fun t128=>((laws_toRuleS.f k l0_1).bind fun t131=>(some (t128,t131,a0_2)))) = some (r1,r2,r3):=h
 clear h
 replace H:=Option.bind_eq_some_iff.mp H
 obtain ⟨t128,A20,H⟩:=H
 replace H:((laws_toRuleS.f k l0_1).bind fun t131=>(some (t128,t131,a0_2))) = some (r1,r2,r3):=H
 have A2:=Aside0.mk A20
 clear A20
 replace H:=Option.bind_eq_some_iff.mp H
 obtain ⟨t131,A30,H⟩:=H
 replace H:(some (t128,t131,a0_2)) = some (r1,r2,r3):=H
 have A3:=Aside0.mk A30
 clear A30
 simp only [Option.some.injEq,Prod.mk.injEq] at H
 obtain ⟨rfl,rfl,rfl⟩:=H
 go_enter Try.func42,Try.ntmps42
 go_wp2_with (first|((with_reducible refine gate_dst (N:=1) rfl ?_);refine box_event ?hg (N:=1) ?hd (cs:=#[.slice A0_0 l0_0.length c0_0, .slice A0_1 l0_1.length c0_1, .int .i64 a0_2]) (t:=65) ?hr ?_;(case hd=>rfl);(case hg=>rfl);(case hr=>first|(go_simp;done)|(go_simp;rfl));intro gb125 hg w4 hbox hb;have n0_:=Aside0.mk (below_step (by repeat (first|(with_reducible first|exact HB.out|apply below_alloc|apply pw_below_drewN|apply below_drew1)|exact HB.out)) hb);have n1_:=Aside0.mk (hbox);have n2_:=Aside0.mk ((by rw [hg];exact (below_size (by repeat (first|(with_reducible first|exact HB.out|apply below_alloc|apply pw_below_drewN|apply below_drew1)|exact HB.out))):w.heap.size ≤ gb125));have n3_:=n2_;clear HB;have HB:=n0_;have BK125:=n1_;have GW125:=n2_;have GE125:=n3_;clear n0_ n1_ n2_ n3_;clear hb hbox hg)|((with_reducible refine gate_dst (N:=2) rfl ?_);refine box_event ?hg (N:=2) ?hd (cs:=#[.slice none 0 0, .slice none 0 0, .int .i64 0]) (t:=30) ?hr ?_;(case hd=>rfl);(case hg=>rfl);(case hr=>first|(go_simp;done)|(go_simp;rfl));intro gb126 hg w5 hbox hb;have n0_:=Aside0.mk (blk_below (g:=gb125) (o:=.cells #[.slice A0_0 l0_0.length c0_0, .slice A0_1 l0_1.length c0_1, .int .i64 a0_2] 65 (0,0)) (by (with_reducible repeat (first|refine blk_drewN ?_ _|refine blk_drew ?_|refine blk_alloc ?_ _));exact BK125.out) hb);have n1_:=Aside0.mk (below_step (by repeat (first|(with_reducible first|exact HB.out|apply below_alloc|apply pw_below_drewN|apply below_drew1|refine below_set ?_ GE125.out)|exact HB.out)) hb);have n2_:=Aside0.mk (hbox);have n3_:=Aside0.mk ((by rw [hg];exact (below_size (by repeat (first|(with_reducible first|exact HB.out|apply below_alloc|apply pw_below_drewN|apply below_drew1|refine below_set ?_ GE125.out)|exact HB.out))):w.heap.size ≤ gb126));have n4_:=n3_;have n5_:=Aside0.mk ((by rw [hg];exact Nat.ne_of_lt (blk_lt (g:=gb125) (o:=.cells #[.slice A0_0 l0_0.length c0_0, .slice A0_1 l0_1.length c0_1, .int .i64 a0_2] 65 (0,0)) (by (with_reducible repeat (first|refine blk_drewN ?_ _|refine blk_drew ?_|refine blk_alloc ?_ _));exact BK125.out)):gb125 ≠ gb126));have n6_:=Aside0.mk ((by rw [hg];exact Nat.ne_of_gt (blk_lt (g:=gb125) (o:=.cells #[.slice A0_0 l0_0.length c0_0, .slice A0_1 l0_1.length c0_1, .int .i64 a0_2] 65 (0,0)) (by (with_reducible repeat (first|refine blk_drewN ?_ _|refine blk_drew ?_|refine blk_alloc ?_ _));exact BK125.out)):gb126 ≠ gb125));clear BK125;clear HB;have BK125:=n0_;have HB:=n1_;have BK126:=n2_;have GW126:=n3_;have GE126:=n4_;have NB125_126:=n5_;have NB126_125:=n6_;clear n0_ n1_ n2_ n3_ n4_ n5_ n6_;clear hb hbox hg)|((with_reducible refine gate_dst (N:=3) rfl ?_);refine box_event ?hg (N:=3) ?hd (cs:=#[.slice none 0 0, .slice none 0 0, .int .i64 0]) (t:=30) ?hr ?_;(case hd=>rfl);(case hg=>rfl);(case hr=>first|(go_simp;done)|(go_simp;rfl));intro gb127 hg w6 hbox hb;have n0_:=Aside0.mk (blk_below (g:=gb125) (o:=.cells #[.slice A0_0 l0_0.length c0_0, .slice A0_1 l0_1.length c0_1, .int .i64 a0_2] 65 (0,0)) (by (with_reducible repeat (first|refine blk_drewN ?_ _|refine blk_drew ?_|refine blk_alloc ?_ _));exact BK125.out) hb);have n1_:=Aside0.mk (blk_below (g:=gb126) (o:=.cells #[.slice none 0 0, .slice none 0 0, .int .i64 0] 30 (0,0)) (by (with_reducible repeat (first|refine blk_drewN ?_ _|refine blk_drew ?_|refine blk_alloc ?_ _));exact BK126.out) hb);have n2_:=Aside0.mk (below_step (by repeat (first|(with_reducible first|exact HB.out|apply below_alloc|apply pw_below_drewN|apply below_drew1|refine below_set ?_ GE125.out|refine below_set ?_ GE126.out)|exact HB.out)) hb);have n3_:=Aside0.mk (hbox);have n4_:=Aside0.mk ((by rw [hg];exact (below_size (by repeat (first|(with_reducible first|exact HB.out|apply below_alloc|apply pw_below_drewN|apply below_drew1|refine below_set ?_ GE125.out|refine below_set ?_ GE126.out)|exact HB.out))):w.heap.size ≤ gb127));have n5_:=n4_;have n6_:=Aside0.mk ((by rw [hg];exact Nat.ne_of_lt (blk_lt (g:=gb125) (o:=.cells #[.slice A0_0 l0_0.length c0_0, .slice A0_1 l0_1.length c0_1, .int .i64 a0_2] 65 (0,0)) (by (with_reducible repeat (first|refine blk_drewN ?_ _|refine blk_drew ?_|refine blk_alloc ?_ _));exact BK125.out)):gb125 ≠ gb127));have n7_:=Aside0.mk ((by rw [hg];exact Nat.ne_of_gt (blk_lt (g:=gb125) (o:=.cells #[.slice A0_0 l0_0.length c0_0, .slice A0_1 l0_1.length c0_1, .int .i64 a0_2] 65 (0,0)) (by (with_reducible repeat (first|refine blk_drewN ?_ _|refine blk_drew ?_|refine blk_alloc ?_ _));exact BK125.out)):gb127 ≠ gb125));have n8_:=Aside0.mk ((by rw [hg];exact Nat.ne_of_lt (blk_lt (g:=gb126) (o:=.cells #[.slice none 0 0, .slice none 0 0, .int .i64 0] 30 (0,0)) (by (with_reducible repeat (first|refine blk_drewN ?_ _|refine blk_drew ?_|refine blk_alloc ?_ _));exact BK126.out)):gb126 ≠ gb127));have n9_:=Aside0.mk ((by rw [hg];exact Nat.ne_of_gt (blk_lt (g:=gb126) (o:=.cells #[.slice none 0 0, .slice none 0 0, .int .i64 0] 30 (0,0)) (by (with_reducible repeat (first|refine blk_drewN ?_ _|refine blk_drew ?_|refine blk_alloc ?_ _));exact BK126.out)):gb127 ≠ gb126));clear BK125;clear BK126;clear HB;have BK125:=n0_;have BK126:=n1_;have HB:=n2_;have BK127:=n3_;have GW127:=n4_;have GE127:=n5_;have NB125_127:=n6_;have NB127_125:=n7_;have NB126_127:=n8_;have NB127_126:=n9_;clear n0_ n1_ n2_ n3_ n4_ n5_ n6_ n7_ n8_ n9_;clear hb hbox hg;have hnb7:=NB125_126.out;have hnc7:=NB126_125.out;have hnb8:=NB125_127.out;have hnc8:=NB127_125.out;have hcz9_0:w6.cell? ⟨gb125,0,none⟩ = some (.slice A0_0 l0_0.length c0_0):=(blk_cell BK125.out 0).trans rfl;have hcz9_1:w6.cell? ⟨gb125,1,none⟩ = some (.slice A0_1 l0_1.length c0_1):=(blk_cell BK125.out 1).trans rfl;have hcz9_2:w6.cell? ⟨gb125,2,none⟩ = some (.int .i64 a0_2):=(blk_cell BK125.out 2).trans rfl;have hfz9_0:=blk_frozen BK125.out 0;have hfz9_1:=blk_frozen BK125.out 1;have hfz9_2:=blk_frozen BK125.out 2)|((with_reducible refine gate_callee (f:=58) rfl ?_);refine goesL_ (some 6) rfl rfl Try.func58 (by kernel_rfl) rfl #[.slice A0_0 l0_0.length c0_0] rfl (by (try simp only [List.map_toArray,List.map_cons,List.map_nil]);first|done|rfl|(simp only [List.length_drop,List.length_take];rfl)) ?_;(with_reducible refine (laws_toStringS.calls k _ _ l0_0 t128 _ ?side1 ?side2 A2.out).mono ?_);(case side1=>repeat (first|exact (Kd.C_below HR0_0.out HB.out)|(with_reducible refine Kd.C_alloc ?_ _)|(with_reducible refine Kd.C_drewN ?_ _)|(with_reducible refine Kd.C_drew ?_)));(case side2=>exact HC0_0.out);rintro e w10 ⟨v129,rfl,ho0,hb⟩;refine ⟨_,rfl,?_⟩;have n0_:=Aside0.mk (Kd.R_lower ho0 (below_size (by repeat (first|(with_reducible first|exact HB.out|apply below_alloc|apply pw_below_drewN|apply below_drew1|refine below_set ?_ GE125.out|refine below_set ?_ GE126.out|refine below_set ?_ GE127.out)|exact HB.out))));have n1_:=Aside0.mk (blk_below (g:=gb125) (o:=.cells #[.slice A0_0 l0_0.length c0_0, .slice A0_1 l0_1.length c0_1, .int .i64 a0_2] 65 (0,0)) (by (with_reducible repeat (first|refine blk_drewN ?_ _|refine blk_drew ?_|refine blk_alloc ?_ _));exact BK125.out) hb);have n2_:=Aside0.mk (blk_below (g:=gb126) (o:=.cells #[.slice none 0 0, .slice none 0 0, .int .i64 0] 30 (0,0)) (by (with_reducible repeat (first|refine blk_drewN ?_ _|refine blk_drew ?_|refine blk_alloc ?_ _));exact BK126.out) hb);have n3_:=Aside0.mk (blk_below (g:=gb127) (o:=.cells #[.slice none 0 0, .slice none 0 0, .int .i64 0] 30 (0,0)) (by (with_reducible repeat (first|refine blk_drewN ?_ _|refine blk_drew ?_|refine blk_alloc ?_ _));exact BK127.out) hb);have n4_:=Aside0.mk (below_step (by repeat (first|(with_reducible first|exact HB.out|apply below_alloc|apply pw_below_drewN|apply below_drew1|refine below_set ?_ GE125.out|refine below_set ?_ GE126.out|refine below_set ?_ GE127.out)|exact HB.out)) hb);clear BK125;clear BK126;clear BK127;clear HB;have HO130:=n0_;have BK125:=n1_;have BK126:=n2_;have BK127:=n3_;have HB:=n4_;clear n0_ n1_ n2_ n3_ n4_;(try clear hb);(try clear hb2);(try clear hk);(try clear hi);(try clear ho0);obtain ⟨Ao11,co11,eo11⟩:=Kd.R_slice HO130.out;subst eo11;have hnb12:=NB127_126.out;have hnc12:=NB126_127.out;have hcz13_0:w10.cell? ⟨gb127,0,none⟩ = some (.slice none 0 0):=(blk_cell BK127.out 0).trans rfl;have hcz13_1:w10.cell? ⟨gb127,1,none⟩ = some (.slice none 0 0):=(blk_cell BK127.out 1).trans rfl;have hcz13_2:w10.cell? ⟨gb127,2,none⟩ = some (.int .i64 0):=(blk_cell BK127.out 2).trans rfl;have hfz13_0:=blk_frozen BK127.out 0;have hfz13_1:=blk_frozen BK127.out 1;have hfz13_2:=blk_frozen BK127.out 2;have hcz14_0:w10.cell? ⟨gb125,0,none⟩ = some (.slice A0_0 l0_0.length c0_0):=(blk_cell BK125.out 0).trans rfl;have hcz14_1:w10.cell? ⟨gb125,1,none⟩ = some (.slice A0_1 l0_1.length c0_1):=(blk_cell BK125.out 1).trans rfl;have hcz14_2:w10.cell? ⟨gb125,2,none⟩ = some (.int .i64 a0_2):=(blk_cell BK125.out 2).trans rfl;have hfz14_0:=blk_frozen BK125.out 0;have hfz14_1:=blk_frozen BK125.out 1;have hfz14_2:=blk_frozen BK125.out 2)|((with_reducible refine gate_callee (f:=59) rfl ?_);refine goesL_ (some 10) rfl rfl Try.func59 (by kernel_rfl) rfl #[.slice A0_1 l0_1.length c0_1] rfl (by (try simp only [List.map_toArray,List.map_cons,List.map_nil]);first|done|rfl|(simp only [List.length_drop,List.length_take];rfl)) ?_;(with_reducible refine (laws_toRuleS.calls k _ _ l0_1 t131 _ ?side1 ?side2 A3.out).mono ?_);(case side1=>exact Kd.C_below HR0_1.out (by repeat (first|(with_reducible first|exact HB.out|apply below_alloc|apply pw_below_drewN|apply below_drew1|refine below_set ?_ GE125.out|refine below_set ?_ GE126.out|refine below_set ?_ GE127.out)|exact HB.out)));(case side2=>exact HC0_1.out);rintro e w15 ⟨v132,rfl,ho0,hb⟩;refine ⟨_,rfl,?_⟩;have n0_:=Aside0.mk (Kd.R_below (by (with_reducible repeat (first|apply Kd.R_alloc|apply Kd.R_drewN|apply Kd.R_drew));exact (Kd.R_mono (Kd.R_far (p:=⟨gb127,0,none⟩) (Kd.R_types HO130.out BK127.out (by decide)) (fun _ hk=>hk.2) (.slice Ao11 t128.length co11)) (fun _ h_=>h_.1))) hb);have n1_:=Aside0.mk (Kd.R_lower ho0 (below_size (by repeat (first|(with_reducible first|exact HB.out|apply below_alloc|apply pw_below_drewN|apply below_drew1|refine below_set ?_ GE125.out|refine below_set ?_ GE126.out|refine below_set ?_ GE127.out)|exact HB.out))));have n2_:=Aside0.mk (blk_below (g:=gb125) (o:=.cells #[.slice A0_0 l0_0.length c0_0, .slice A0_1 l0_1.length c0_1, .int .i64 a0_2] 65 (0,0)) (by (with_reducible repeat (first|refine blk_drewN ?_ _|refine blk_drew ?_|refine blk_alloc ?_ _));refine blk_far ?_ NB125_127.out _;(with_reducible repeat (first|refine blk_drewN ?_ _|refine blk_drew ?_|refine blk_alloc ?_ _));exact BK125.out) hb);have n3_:=Aside0.mk (blk_below (g:=gb126) (o:=.cells #[.slice none 0 0, .slice none 0 0, .int .i64 0] 30 (0,0)) (by (with_reducible repeat (first|refine blk_drewN ?_ _|refine blk_drew ?_|refine blk_alloc ?_ _));refine blk_far ?_ NB126_127.out _;(with_reducible repeat (first|refine blk_drewN ?_ _|refine blk_drew ?_|refine blk_alloc ?_ _));exact BK126.out) hb);have n4_:=Aside0.mk (blk_below (g:=gb127) (o:=.cells #[.slice Ao11 t128.length co11, .slice none 0 0, .int .i64 0] 30 (0,0)) (by (with_reducible repeat (first|refine blk_drewN ?_ _|refine blk_drew ?_|refine blk_alloc ?_ _));refine blk_put (cs:=#[.slice none 0 0, .slice none 0 0, .int .i64 0]) ?_ 0 _ rfl;(with_reducible repeat (first|refine blk_drewN ?_ _|refine blk_drew ?_|refine blk_alloc ?_ _));exact BK127.out) hb);have n5_:=Aside0.mk (below_step (by repeat (first|(with_reducible first|exact HB.out|apply below_alloc|apply pw_below_drewN|apply below_drew1|refine below_set ?_ GE125.out|refine below_set ?_ GE126.out|refine below_set ?_ GE127.out)|exact HB.out)) hb);clear HO130;clear BK125;clear BK126;clear BK127;clear HB;have HO130:=n0_;have HO133:=n1_;have BK125:=n2_;have BK126:=n3_;have BK127:=n4_;have HB:=n5_;clear n0_ n1_ n2_ n3_ n4_ n5_;(try clear hb);(try clear hb2);(try clear hk);(try clear hi);(try clear ho0);obtain ⟨Ao16,co16,eo16⟩:=Kd.R_slice HO133.out;subst eo16;have hcz17_0:w15.cell? ⟨gb127,0,none⟩ = some (.slice Ao11 t128.length co11):=(blk_cell BK127.out 0).trans rfl;have hcz17_1:w15.cell? ⟨gb127,1,none⟩ = some (.slice none 0 0):=(blk_cell BK127.out 1).trans rfl;have hcz17_2:w15.cell? ⟨gb127,2,none⟩ = some (.int .i64 0):=(blk_cell BK127.out 2).trans rfl;have hfz17_0:=blk_frozen BK127.out 0;have hfz17_1:=blk_frozen BK127.out 1;have hfz17_2:=blk_frozen BK127.out 2;have hcz18_0:w15.cell? ⟨gb125,0,none⟩ = some (.slice A0_0 l0_0.length c0_0):=(blk_cell BK125.out 0).trans rfl;have hcz18_1:w15.cell? ⟨gb125,1,none⟩ = some (.slice A0_1 l0_1.length c0_1):=(blk_cell BK125.out 1).trans rfl;have hcz18_2:w15.cell? ⟨gb125,2,none⟩ = some (.int .i64 a0_2):=(blk_cell BK125.out 2).trans rfl;have hfz18_0:=blk_frozen BK125.out 0;have hfz18_1:=blk_frozen BK125.out 1;have hfz18_2:=blk_frozen BK125.out 2;have hcz19_0:w15.cell? ⟨gb126,0,none⟩ = some (.slice none 0 0):=(blk_cell BK126.out 0).trans rfl;have hcz19_1:w15.cell? ⟨gb126,1,none⟩ = some (.slice none 0 0):=(blk_cell BK126.out 1).trans rfl;have hcz19_2:w15.cell? ⟨gb126,2,none⟩ = some (.int .i64 0):=(blk_cell BK126.out 2).trans rfl;have hfz19_0:=blk_frozen BK126.out 0;have hfz19_1:=blk_frozen BK126.out 1;have hfz19_2:=blk_frozen BK126.out 2))
 refine bodyPost_ret (results_cell_row rfl _ _ gb126 30 #[.slice Ao11 t128.length co11, .slice Ao16 t131.length co16, .int .i64 a0_2] (0,0) _ rfl (by (with_reducible repeat (first|refine blk_drewN ?_ _|refine blk_drew ?_|refine blk_alloc ?_ _));refine blk_put (cs:=#[.slice Ao11 t128.length co11, .slice Ao16 t131.length co16, .int .i64 0]) ?_ 2 _ rfl;(with_reducible repeat (first|refine blk_drewN ?_ _|refine blk_drew ?_|refine blk_alloc ?_ _));refine blk_put (cs:=#[.slice Ao11 t128.length co11, .slice none 0 0, .int .i64 0]) ?_ 1 _ rfl;(with_reducible repeat (first|refine blk_drewN ?_ _|refine blk_drew ?_|refine blk_alloc ?_ _));refine blk_put (cs:=#[.slice none 0 0, .slice none 0 0, .int .i64 0]) ?_ 0 _ rfl;(with_reducible repeat (first|refine blk_drewN ?_ _|refine blk_drew ?_|refine blk_alloc ?_ _));refine blk_far ?_ NB126_127.out _;(with_reducible repeat (first|refine blk_drewN ?_ _|refine blk_drew ?_|refine blk_alloc ?_ _));refine blk_far ?_ NB126_127.out _;(with_reducible repeat (first|refine blk_drewN ?_ _|refine blk_drew ?_|refine blk_alloc ?_ _));exact BK126.out) Try.underlying30 rfl (by kernel_rfl)) rfl ?_
 exact ⟨_,_,by first|rfl|(simp <;> rfl)|(simp [*] <;> rfl),by (with_reducible repeat (first|apply Kd.R_alloc|apply Kd.R_drewN|apply Kd.R_drew));exact Kd.R_mono (Kd.R_far (p:=⟨gb126,2,none⟩) (Kd.R_far (p:=⟨gb126,1,none⟩) (Kd.R_far (p:=⟨gb126,0,none⟩) (Kd.R_far (p:=⟨gb127,2,none⟩) (Kd.R_far (p:=⟨gb127,1,none⟩) (Kd.R_types (Kd.R_types HO130.out BK127.out (by decide)) BK126.out (by decide)) (fun _ hk=>hk.1.2) (.slice Ao16 t131.length co16)) (fun _ hk=>hk.1.2) (.int .i64 a0_2)) (fun _ hk=>hk.2) (.slice Ao11 t128.length co11)) (fun _ hk=>hk.2) (.slice Ao16 t131.length co16)) (fun _ hk=>hk.2) (.int .i64 a0_2)) (fun _ hk=>trivial),by (with_reducible repeat (first|apply Kd.R_alloc|apply Kd.R_drewN|apply Kd.R_drew));exact Kd.R_mono (Kd.R_far (p:=⟨gb126,2,none⟩) (Kd.R_far (p:=⟨gb126,1,none⟩) (Kd.R_far (p:=⟨gb126,0,none⟩) (Kd.R_far (p:=⟨gb127,2,none⟩) (Kd.R_far (p:=⟨gb127,1,none⟩) (Kd.R_types (Kd.R_types HO133.out BK127.out (by decide)) BK126.out (by decide)) (fun _ hk=>hk.1.2) (.slice Ao16 t131.length co16)) (fun _ hk=>hk.1.2) (.int .i64 a0_2)) (fun _ hk=>hk.2) (.slice Ao11 t128.length co11)) (fun _ hk=>hk.2) (.slice Ao16 t131.length co16)) (fun _ hk=>hk.2) (.int .i64 a0_2)) (fun _ hk=>trivial),by repeat (first|(with_reducible first|exact HB.out|apply below_alloc|apply pw_below_drewN|apply below_drew1|refine below_set ?_ GE125.out|refine below_set ?_ GE126.out|refine below_set ?_ GE127.out)|exact HB.out)⟩

/-! ### laws_toGroupS: function 22 -/
def laws_toGroupS.l0:Nat → List (S65) → List (S30) → Int → Option ((List (S30)))
 | 0,_,_,_=>none
 | k + 1,x0,x3,x4=>if x4 < (x0.length:Int) then (if 0 ≤ x4 then ((laws_toGroup.f k ((rd_T65 x0 x4).f0) ((rd_T65 x0 x4).f1) ((rd_T65 x0 x4).f2)).bind fun bt138=>(if x4 < (x3.length:Int) then (laws_toGroupS.l0 k x0 (x3.set (x4:Int).toNat (⟨bt138.1,bt138.2.1,bt138.2.2⟩:S30)) (wrap64 (x4 + 1))) else (none))) else (none)) else (some x3)
def laws_toGroupS.f (k:Nat) (l0:List (S65)):Option ((List (S30))):=if 0 ≤ (l0.length:Int) then (if ((l0.length:Int):Int).toNat ≤ 5026338869833 then (laws_toGroupS.l0 k l0 (List.replicate ((l0.length:Int):Int).toNat z30) 0) else (none)) else (none)
theorem laws_toGroupS.mono_l:∀ k,(∀ y0 y1 y2,LeO (laws_toGroupS.l0 k y0 y1 y2) (laws_toGroupS.l0 (k + 1) y0 y1 y2))
 | 0=>fun _ _ _ r h=>by simp [laws_toGroupS.l0] at h
 | k + 1=>by
  have ih0:=laws_toGroupS.mono_l k
  ·intro y0 y1 y2
   unfold laws_toGroupS.l0
   repeat' first
   | (with_reducible exact ih0 _ _ _)
   | (with_reducible exact laws_toGroup.mono _ _ _ _)
   | (with_reducible exact LeO.refl _)
   | (with_reducible exact LeO.none _)
   | (with_reducible refine LeO.ite ?_ ?_)
   | (with_reducible refine LeO.bind ?_ (fun _=>?_))
   | exact ih0 _ _ _
   | exact laws_toGroup.mono _ _ _ _
   | exact LeO.none _
   | refine LeO.ite ?_ ?_
   | refine LeO.bind ?_ (fun _=>?_)
theorem laws_toGroupS.mono:∀ a0 k,LeO (laws_toGroupS.f k a0) (laws_toGroupS.f (k + 1) a0):=by
 intro a0 k
 have ih0:=laws_toGroupS.mono_l k
 unfold laws_toGroupS.f
 repeat' first
   | (with_reducible exact ih0 _ _ _)
   | (with_reducible exact laws_toGroup.mono _ _ _ _)
   | (with_reducible exact LeO.refl _)
   | (with_reducible exact LeO.none _)
   | (with_reducible refine LeO.ite ?_ ?_)
   | (with_reducible refine LeO.bind ?_ (fun _=>?_))
   | exact ih0 _ _ _
   | exact laws_toGroup.mono _ _ _ _
   | exact LeO.none _
   | refine LeO.ite ?_ ?_
   | refine LeO.bind ?_ (fun _=>?_)
theorem laws_toGroupS.calls (k:Nat) (A0:Option Addr) (c0:Nat) (l0:List (S65)) (r:List (S30)) (w:World) (hr0:Kd.C k65 w A0 l0.length l0) (hc0:l0.length ≤ c0) (h:laws_toGroupS.f k l0 = some r) :
  Calls Try.prog 22 #[.slice A0 l0.length c0] w fun e w'=>∃ v0_:Value,e = .returned (v0_) ∧ Kd.S k30 30 w' w.heap.size (fun _=>True) v0_ r ∧ Below w.heap.size w w':=by
 have hu65:=Try.underlying65
 have hu30:=Try.underlying30
 have HR0:=Aside0.mk hr0
 have HC0:=Aside0.mk hc0
 clear hr0 hc0
 have HB:=Aside0.mk (Below.refl w.heap.size w)
 have H:(if 0 ≤ (l0.length:Int) then (if ((l0.length:Int):Int).toNat ≤ 5026338869833 then (laws_toGroupS.l0 k l0 (List.replicate ((l0.length:Int):Int).toNat z30) 0) else (none)) else (none)) = some r:=h
 clear h
 by_cases c2:0 ≤ (l0.length:Int)
 ·rw [if_pos c2] at H
  have c2b0:=eq_true c2
  have c2b1:=decide_eq_true c2
  clear c2
  by_cases c3:((l0.length:Int):Int).toNat ≤ 5026338869833
  ·rw [if_pos c3] at H
   have c3b0:=eq_true c3
   have c3b1:=decide_eq_true c3
   clear c3
   obtain ⟨y134,hy134⟩:∃ y_:List (S30),y_ = (List.replicate ((l0.length:Int):Int).toNat z30):=⟨_,rfl⟩
   replace H:(laws_toGroupS.l0 k l0 y134 0) = some r:=by first|(rw [hy134];with_reducible exact H)|(have H2_:=(Option.bind_some _ _).symm.trans H;rw [hy134];with_reducible exact H2_)|(have H2_:=(Option.bind_some _ _).symm.trans H;with_reducible exact H2_)|with_reducible exact H|(rw [hy134];exact H)|exact H
   have Ny134:=Aside0.mk hy134
   clear hy134
   have H':=Aside0.mk H
   clear H
   go_enter Try.func22,Try.ntmps22
   go_wp2_with (first|((with_reducible refine gate_dst (N:=7) rfl ?_);refine Kd.S_make k30 _ 30 rfl (N:=7) rfl 24 _ _ rfl (l0.length:Int) rfl rfl Try.underlying24 (.agg #[(.slice none 0 0),(.slice none 0 0),(.int .i64 0)]) 56 info30 rfl (by decide) (by omega) z30 (ok:=fun _=>True) (okp:=fun _=>True) (k30_mkM _ _ _ z30 (Kd.R_nil _ _ _ _ _) (Kd.R_nil _ _ _ _ _)) (fun _ hk=>hk) trivial (of_decide_eq_true (by first|(with_reducible assumption)|assumption)) (Nat.le_trans (Nat.mul_le_mul_right _ (of_decide_eq_true (by first|(with_reducible assumption)|assumption):(l0.length:Int).toNat ≤ 5026338869833)) (by omega)) (Below.refl _ _) (Nat.le_refl _) ?_;intro v135 w4 ho5 hb hg_ hnew_;clear hg_ hnew_;(first|rw [← Ny134.out] at ho5|(simp only [Int.reduceToNat] at ho5;rw [← Ny134.out] at ho5));have n0_:=Aside0.mk (Kd.S_lower ho5 (below_size (by repeat (first|(with_reducible first|exact HB.out|apply below_alloc|apply pw_below_drewN|apply below_drew1)|exact HB.out))));have n1_:=Aside0.mk (below_step (by repeat (first|(with_reducible first|exact HB.out|apply below_alloc|apply pw_below_drewN|apply below_drew1)|exact HB.out)) hb);clear HB;have HO136:=n0_;have HB:=n1_;clear n0_ n1_;clear hb ho5))
   go_loopg [4] k (fun kq v4 w'=>∃ (x3_1:List (S30)) (x4_1:Int),v4 = .int .i64 x4_1 ∧ Aside0 (laws_toGroupS.l0 kq l0 x3_1 x4_1 = some r) ∧ Aside0 (kq ≤ k) ∧ Aside0 (Kd.S k30 30 w' w.heap.size (fun _=>True) v135 x3_1) ∧ Aside0 (Below w.heap.size w w'))
   case atStart=>exact ⟨(y134),(0),(by first|rfl|(simp;done)|(simp only [i64_w,i32_w];done)|(simp only [i64_w,i32_w];rfl)|(simp [*];done)|(simp [emp_bne,emp_beq];done)),H',⟨Nat.le_refl _⟩,⟨by (with_reducible repeat (first|apply Kd.S_alloc|apply Kd.S_drewN|apply Kd.S_drew));exact HO136.out⟩,⟨by repeat (first|(with_reducible first|exact HB.out|apply below_alloc|apply pw_below_drewN|apply below_drew1)|exact HB.out)⟩⟩
   case round =>
    clear H'
    try clear c2
    try clear c2b0
    try clear c2b1
    try clear p2
    try clear c3
    try clear c3b0
    try clear c3b1
    obtain ⟨x3_1,x4_1,rfl,HA,HK1,HO_3,HB⟩:=hrel
    cases gk with
    | zero=>exact absurd HA.out (by simp [laws_toGroupS.l0])
    | succ k1 =>
     have H:=HA.out
     clear HA
     simp only [laws_toGroupS.l0] at H
     by_cases c6:x4_1 < (l0.length:Int)
     ·rw [if_pos c6] at H
      have c6b0:decide (x4_1 < (l0.length:Int)) = true:=decide_eq_true c6
      clear c6
      by_cases c7:0 ≤ x4_1
      ·rw [if_pos c7] at H
       have c7b0:decide (0 ≤ x4_1) = true:=decide_eq_true c7
       clear c7
       replace H:=Option.bind_eq_some_iff.mp H
       obtain ⟨⟨t138,t141,t144⟩,A80,H⟩:=H
       replace H:(if x4_1 < (x3_1.length:Int) then (laws_toGroupS.l0 k1 l0 (x3_1.set (x4_1:Int).toNat (⟨t138,t141,t144⟩:S30)) (wrap64 (x4_1 + 1))) else (none)) = some r:=H
       have A8:=Aside0.mk A80
       clear A80
       by_cases c9:x4_1 < (x3_1.length:Int)
       ·rw [if_pos c9] at H
        have c9b0:decide (x4_1 < (x3_1.length:Int)) = true:=decide_eq_true c9
        clear c9
        obtain ⟨y145,hy145⟩:∃ y_:List (S30),y_ = (x3_1.set (x4_1:Int).toNat (⟨t138,t141,t144⟩:S30)):=⟨_,rfl⟩
        replace H:(laws_toGroupS.l0 k1 l0 y145 (wrap64 (x4_1 + 1))) = some r:=by first|(rw [hy145];with_reducible exact H)|(have H2_:=(Option.bind_some _ _).symm.trans H;rw [hy145];with_reducible exact H2_)|(have H2_:=(Option.bind_some _ _).symm.trans H;with_reducible exact H2_)|with_reducible exact H|(rw [hy145];exact H)|exact H
        have Ny145:=Aside0.mk hy145
        clear hy145
        have H':=Aside0.mk H
        clear H
        have p137:0 ≤ (x4_1:Int):=of_decide_eq_true (by first|(with_reducible assumption)|assumption)
        have q137:x4_1 < (l0.length:Int):=of_decide_eq_true (by first|(with_reducible assumption)|assumption)
        obtain ⟨ad137,A137_0,c137_0,A137_1,c137_1,e137,hx137_0,hx137_1,hx137_2,hl137_0,hi137_0,hl137_1,hi137_1⟩:=at_T65 HR0.out x4_1 p137 q137
        cases e137
        replace hx137_0:=(HB.out.cell (World.block_lt_of_cell? w _ hx137_0)).trans hx137_0
        replace hx137_1:=(HB.out.cell (World.block_lt_of_cell? w _ hx137_1)).trans hx137_1
        replace hx137_2:=(HB.out.cell (World.block_lt_of_cell? w _ hx137_2)).trans hx137_2
        have HR137_0:=Aside0.mk hi137_0
        have HC137_0:=Aside0.mk hl137_0
        clear hi137_0 hl137_0
        have HR137_1:=Aside0.mk hi137_1
        have HC137_1:=Aside0.mk hl137_1
        clear hi137_1 hl137_1
        replace p137:=eq_true p137
        replace q137:=eq_true q137
        go_wp2_with (first|((with_reducible refine gate_callee (f:=42) rfl ?_);refine goesL_ (some 20) rfl rfl Try.func42 (by kernel_rfl) rfl #[.agg #[.slice A137_0 ((rd_T65 l0 x4_1).f0).length c137_0, .slice A137_1 ((rd_T65 l0 x4_1).f1).length c137_1, .int .i64 ((rd_T65 l0 x4_1).f2)]] rfl (by (try simp only [List.map_toArray,List.map_cons,List.map_nil]);first|done|rfl|(simp only [List.length_drop,List.length_take];rfl)) ?_;(with_reducible refine (laws_toGroup.calls k1 _ _ ((rd_T65 l0 x4_1).f0) _ _ ((rd_T65 l0 x4_1).f1) ((rd_T65 l0 x4_1).f2) t138 t141 t144 _ ?side1 ?side2 ?side3 ?side4 A8.out).mono ?_);(case side1=>repeat (first|exact (Kd.C_below HR137_0.out HB.out)|(with_reducible refine Kd.C_alloc ?_ _)|(with_reducible refine Kd.C_drewN ?_ _)|(with_reducible refine Kd.C_drew ?_)));(case side2=>exact HC137_0.out);(case side3=>repeat (first|exact (Kd.C_below HR137_1.out HB.out)|(with_reducible refine Kd.C_alloc ?_ _)|(with_reducible refine Kd.C_drewN ?_ _)|(with_reducible refine Kd.C_drew ?_)));(case side4=>exact HC137_1.out);rintro e w11 ⟨v139,v142,rfl,ho0,ho1,hb⟩;refine ⟨_,rfl,?_⟩;have n0_:=Aside0.mk (Kd.S_mono (Kd.S_told (Kd.S_told (Kd.S_old (by (with_reducible repeat (first|apply Kd.S_alloc|apply Kd.S_drewN|apply Kd.S_drew));exact HO_3.out) hb) (Kd.R_base ho0)) (Kd.R_base ho1)) (fun _ h_=>h_.1));have n1_:=Aside0.mk (Kd.R_lower ho0 (below_size (by repeat (first|(with_reducible first|exact HB.out|apply below_alloc|apply pw_below_drewN|apply below_drew1)|exact HB.out))));have n2_:=Aside0.mk (Kd.R_lower ho1 (below_size (by repeat (first|(with_reducible first|exact HB.out|apply below_alloc|apply pw_below_drewN|apply below_drew1)|exact HB.out))));have n3_:=Aside0.mk (below_step (by repeat (first|(with_reducible first|exact HB.out|apply below_alloc|apply pw_below_drewN|apply below_drew1)|exact HB.out)) hb);clear HO_3;clear HB;have HO_3:=n0_;have HO140:=n1_;have HO143:=n2_;have HB:=n3_;clear n0_ n1_ n2_ n3_;(try clear hb);(try clear hb2);(try clear hk);(try clear hi);(try clear ho0);(try clear ho1);have p10:0 ≤ (x4_1:Int):=of_decide_eq_true (by first|(with_reducible assumption)|assumption);have q10:(x4_1:Int) < ((x3_1.length:Int):Int):=of_decide_eq_true (by first|(with_reducible assumption)|assumption);obtain ⟨go10,co10,eo10,gb10,gl10,cl10,HG10⟩:=Kd.S_form HO_3.out (by omega);(first|cases eo10|(injection eo10 with ea_ en_ ec_;(first|subst ea_|(injection ea_ with ea_;subst ea_));subst ec_;clear en_));have GB10:=Aside0.mk gb10;have GG10:=Aside0.mk HG10;clear gb10 gl10 HG10;obtain ⟨_,ce10,hcl10,hM10,hcc10,hfr10,_,_⟩:=Kd.S_elem HO_3.out z30 (x4_1:Int) p10 q10;obtain ⟨ve10_0,ve10_1,rfl,ge10_0,ge10_1⟩:=k30_openM hM10;have hx10_0:w11.cell? ⟨go10,(x4_1:Int).toNat * 3,none⟩ = some (ve10_0):=hcc10 0 _ rfl;have hx10_1:w11.cell? ⟨go10,(x4_1:Int).toNat * 3 + 1,none⟩ = some (ve10_1):=hcc10 1 _ rfl;have hx10_2:w11.cell? ⟨go10,(x4_1:Int).toNat * 3 + 2,none⟩ = some (.int .i64 ((rd_T30 x3_1 x4_1).f2)):=hcc10 2 _ rfl;have hf10_0:w11.frozen? ⟨go10,(x4_1:Int).toNat * 3,none⟩ = false:=hfr10 0;have hf10_1:w11.frozen? ⟨go10,(x4_1:Int).toNat * 3 + 1,none⟩ = false:=hfr10 1;have hf10_2:w11.frozen? ⟨go10,(x4_1:Int).toNat * 3 + 2,none⟩ = false:=hfr10 2;clear hcl10 hcc10 hfr10 hM10;replace p10:=eq_true p10;replace q10:=eq_true q10;have n_:=Aside0.mk (Kd.S_mono (ok':=(fun k_=>some k_ ≠ (v139:Value).ownBlock ∧ some k_ ≠ (v142:Value).ownBlock)) HO_3.out (fun k_ hk=>⟨hk.1.2,hk.2⟩));clear HO_3;have HO_3:=n_;clear n_;have HX12:=Aside0.mk (show Kd.S k30 30 w11 w.heap.size (fun k_=>((fun _=>True)) k_ ∧ ¬ ((fun k_=>some k_ = (v139:Value).ownBlock ∨ some k_ = (v142:Value).ownBlock)) k_) (.slice (some ⟨go10,0,none⟩) x3_1.length co10) x3_1 from (by (with_reducible repeat (first|apply Kd.S_alloc|apply Kd.S_drewN|apply Kd.S_drew));exact Kd.S_mono HO_3.out (fun k_ hk=>⟨trivial,fun e_=>e_.elim (fun h_=>hk.1 h_) (fun h_=>hk.2 h_)⟩)));obtain ⟨oki12,ce12,hcl12,hM12,hcc12,hfr12,hoki12,hH12⟩:=Kd.S_elem HX12.out z30 (x4_1:Int) (of_decide_eq_true (by first|(with_reducible assumption)|assumption)) (by have h_:(x4_1:Int) < ((x3_1.length:Int):Int):=of_decide_eq_true (by first|(with_reducible assumption)|assumption);first|exact h_|(have e_:=(Kd.S_reads' HO_3.out).1;omega)|simpa using h_);obtain ⟨ve12_0,ve12_1,rfl,ge12_0,ge12_1⟩:=k30_openM hM12;have HP12:=Kd.S_seg hH12 (of_decide_eq_true (by first|(with_reducible assumption)|assumption)) (by have h_:(x4_1:Int) < ((x3_1.length:Int):Int):=of_decide_eq_true (by first|(with_reducible assumption)|assumption);first|exact h_|(have e_:=(Kd.S_reads' HO_3.out).1;omega)|simpa using h_) (seg:=[v139,v142, .int .i64 t144]) (j:=0) (show 3 ≤ 3 from by decide) (x':=(⟨t138,t141,t144⟩:S30)) (k30_mkM _ _ _ (⟨t138,t141,t144⟩:S30) (Kd.R_mono (Kd.R_tight rfl (Kd.R_mono (ok':=fun k_=>((fun _=>True)) k_ ∧ k_ ≠ go10) (Kd.R_apart' (HO140.out) (Kd.S_typed HO_3.out) (by decide)) (fun k_ hk=>⟨trivial,fun e_=>(hk.2) (by rw [e_];rfl)⟩))) (fun _ h_=>Or.inr (Or.inl h_))) (Kd.R_mono (Kd.R_tight rfl (Kd.R_mono (ok':=fun k_=>((fun _=>True)) k_ ∧ k_ ≠ go10) (Kd.R_apart' (HO143.out) (Kd.S_typed HO_3.out) (by decide)) (fun k_ hk=>⟨trivial,fun e_=>(hk.2) (by rw [e_];rfl)⟩))) (fun _ h_=>Or.inr (Or.inr (h_))))) (fun _ hk=>hk) (fun k_ hk_=>hk_.elim (fun h_=>((Kd.R_mono (ok':=fun k_=>((fun _=>True)) k_ ∧ k_ ≠ go10) (Kd.R_apart' (HO140.out) (Kd.S_typed HO_3.out) (by decide)) (fun k_ hk=>⟨trivial,fun e_=>(hk.2) (by rw [e_];rfl)⟩))).1 k_ h_.symm) (fun h_=>((Kd.R_mono (ok':=fun k_=>((fun _=>True)) k_ ∧ k_ ≠ go10) (Kd.R_apart' (HO143.out) (Kd.S_typed HO_3.out) (by decide)) (fun k_ hk=>⟨trivial,fun e_=>(hk.2) (by rw [e_];rfl)⟩))).1 k_ h_.symm));have hx12_0:=hcc12 0 _ rfl;(try simp only [show (k30).sz = 3 from rfl,Nat.mul_one,Nat.add_zero] at hx12_0);have hf12_0:=hfr12 0;(try simp only [show (k30).sz = 3 from rfl,Nat.mul_one,Nat.add_zero] at hf12_0);have hx12_1:=hcc12 1 _ rfl;(try simp only [show (k30).sz = 3 from rfl,Nat.mul_one,Nat.add_zero] at hx12_1);have hf12_1:=hfr12 1;(try simp only [show (k30).sz = 3 from rfl,Nat.mul_one,Nat.add_zero] at hf12_1);have hx12_2:=hcc12 2 _ rfl;(try simp only [show (k30).sz = 3 from rfl,Nat.mul_one,Nat.add_zero] at hx12_2);have hf12_2:=hfr12 2;(try simp only [show (k30).sz = 3 from rfl,Nat.mul_one,Nat.add_zero] at hf12_2);clear hcl12 hcc12 hfr12 hM12 hoki12 hH12)|((with_reducible refine gate_store (t:=30) (p:=21) rfl ?_);refine store_event (t:=30) (p:=21) (v:=?vo_w13) (w1:=(((w11.setCell ⟨go10,(x4_1:Int).toNat * 3,none⟩ (v139)).setCell ⟨go10,(x4_1:Int).toNat * 3 + 1,none⟩ (v142)).setCell ⟨go10,(x4_1:Int).toNat * 3 + 2,none⟩ (.int .i64 t144))) ?hg ?ho ?hn ?hr ?_;(case ho=>rfl);(case hg=>rfl);(case hn=>rfl);(case hr=>first|(go_simp;done)|(go_simp;rfl)|(obtain ⟨_,_,e0_⟩:=Kd.R_slice HO140.out;subst e0_;obtain ⟨_,_,e1_⟩:=Kd.R_slice HO143.out;subst e1_;first|(go_simp;done)|(go_simp;rfl)));intro w13 hw;have hg:w11.grownBy w13 (some go10):=(by rw [hw];exact HP12.2);have hp_:Kd.S k30 30 w13 w.heap.size (fun _=>True) (.slice (some ⟨go10,0,none⟩) x3_1.length co10) y145:=(by rw [hw,Ny145.out];exact HP12.1);clear HP12;have n0_:=Aside0.mk (hp_);have n1_:=Aside0.mk ((by rw [hw];exact below_set (below_set (below_set (HB.out) GB10.out) GB10.out) GB10.out:Below w.heap.size w w13));clear HO_3;clear HB;clear HO140;clear HO143;have HO_3:=n0_;have HB:=n1_;clear n0_ n1_;clear hg hw hp_))
        go_roundg k1
        case measure=>have:=HK1.out;omega
        case rel=>exact ⟨(y145),(wrap64 (x4_1 + 1)),(by first|rfl|(simp;done)|(simp only [i64_w,i32_w];done)|(simp only [i64_w,i32_w];rfl)|(simp [*];done)|(simp [emp_bne,emp_beq];done)),H',⟨by have:=HK1.out;omega⟩,⟨by (with_reducible repeat (first|apply Kd.S_alloc|apply Kd.S_drewN|apply Kd.S_drew));exact HO_3.out⟩,⟨by repeat (first|(with_reducible first|exact HB.out|apply below_alloc|apply pw_below_drewN|apply below_drew1)|exact HB.out)⟩⟩
       ·rw [if_neg c9] at H
        exact absurd H (by simp)
      ·rw [if_neg c7] at H
       exact absurd H (by simp)
     ·rw [if_neg c6] at H
      have c6b0:decide (x4_1 < (l0.length:Int)) = false:=decide_eq_false c6
      clear c6
      obtain rfl:=Option.some.inj H
      go_wp2
      go_ret
      exact ⟨_,by first|rfl|(simp <;> rfl)|(simp [*] <;> rfl),by (with_reducible repeat (first|apply Kd.S_alloc|apply Kd.S_drewN|apply Kd.S_drew));exact HO_3.out,by repeat (first|(with_reducible first|exact HB.out|apply below_alloc|apply pw_below_drewN|apply below_drew1)|exact HB.out)⟩
  ·rw [if_neg c3] at H
   exact absurd H (by simp)
 ·rw [if_neg c2] at H
  exact absurd H (by simp)

/-! ### laws_eqStringS: function 43 -/
def laws_eqStringS.l0:Nat → List ByteArray → List ByteArray → Int → Option (Bool)
 | 0,_,_,_=>none
 | k + 1,x0,x1,x5=>if x5 < (x0.length:Int) then (if 0 ≤ x5 then (if x5 < (x1.length:Int) then (if (rdOf ByteArray.empty x0 x5).toList = (rdOf ByteArray.empty x1 x5).toList then (laws_eqStringS.l0 k x0 x1 (wrap64 (x5 + 1))) else (some false)) else (none)) else (none)) else (some true)
def laws_eqStringS.f (k:Nat) (l0:List ByteArray) (l1:List ByteArray):Option (Bool):=if (l0.length:Int) = (l1.length:Int) then (laws_eqStringS.l0 k l0 l1 0) else (some false)
theorem laws_eqStringS.mono_l:∀ k,(∀ y0 y1 y2,LeO (laws_eqStringS.l0 k y0 y1 y2) (laws_eqStringS.l0 (k + 1) y0 y1 y2))
 | 0=>fun _ _ _ r h=>by simp [laws_eqStringS.l0] at h
 | k + 1=>by
  have ih0:=laws_eqStringS.mono_l k
  ·intro y0 y1 y2
   unfold laws_eqStringS.l0
   repeat' first
   | (with_reducible exact ih0 _ _ _)
   | (with_reducible exact LeO.refl _)
   | (with_reducible exact LeO.none _)
   | (with_reducible refine LeO.ite ?_ ?_)
   | (with_reducible refine LeO.bind ?_ (fun _=>?_))
   | exact ih0 _ _ _
   | exact LeO.none _
   | refine LeO.ite ?_ ?_
   | refine LeO.bind ?_ (fun _=>?_)
theorem laws_eqStringS.mono:∀ a0 a1 k,LeO (laws_eqStringS.f k a0 a1) (laws_eqStringS.f (k + 1) a0 a1):=by
 intro a0 a1 k
 have ih0:=laws_eqStringS.mono_l k
 unfold laws_eqStringS.f
 repeat' first
   | (with_reducible exact ih0 _ _ _)
   | (with_reducible exact LeO.refl _)
   | (with_reducible exact LeO.none _)
   | (with_reducible refine LeO.ite ?_ ?_)
   | (with_reducible refine LeO.bind ?_ (fun _=>?_))
   | exact ih0 _ _ _
   | exact LeO.none _
   | refine LeO.ite ?_ ?_
   | refine LeO.bind ?_ (fun _=>?_)
theorem laws_eqStringS.calls (k:Nat) (A0:Option Addr) (c0:Nat) (l0:List ByteArray) (A1:Option Addr) (c1:Nat) (l1:List ByteArray) (r:Bool) (w:World) (hr0:Kd.C Kd.string w A0 l0.length l0) (hc0:l0.length ≤ c0) (hr1:Kd.C Kd.string w A1 l1.length l1) (hc1:l1.length ≤ c1) (h:laws_eqStringS.f k l0 l1 = some r) :
  Calls Try.prog 43 #[.slice A0 l0.length c0, .slice A1 l1.length c1] w fun e w'=>e = .returned (.bool r) ∧ Drawn0 w w':=by
 have HR0:=Aside0.mk hr0
 have HC0:=Aside0.mk hc0
 clear hr0 hc0
 have HR1:=Aside0.mk hr1
 have HC1:=Aside0.mk hc1
 clear hr1 hc1
 have H:(if (l0.length:Int) = (l1.length:Int) then (laws_eqStringS.l0 k l0 l1 0) else (some false)) = some r:=h
 clear h
 by_cases c3:(l0.length:Int) = (l1.length:Int)
 ·rw [if_pos c3] at H
  have c3b0:((l0.length:Int) == (l1.length:Int)) = true:=beq_iff_eq.mpr c3
  have c3b1:((l0.length:Int) != (l1.length:Int)) = false:=bne_eq_false_iff_eq.mpr c3
  have c3b2:(l0.length == l1.length) = true:=by first|simpa using c3|(simp at c3 ⊢;omega)
  clear c3
  have H':=Aside0.mk H
  clear H
  go_enter Try.func43,Try.ntmps43
  go_wp2
  repeat (go_quiet (fail);try go_wp2)
  go_loopg [5] k (fun kq v5 w'=>∃ (x5_1:Int),v5 = .int .i64 x5_1 ∧ Aside0 (laws_eqStringS.l0 kq l0 l1 x5_1 = some r) ∧ Aside0 (kq ≤ k) ∧ Drawn0 w w')
  case atStart=>exact ⟨(0),(by first|rfl|(simp;done)|(simp only [i64_w,i32_w];done)|(simp only [i64_w,i32_w];rfl)|(simp [*];done)|(simp [emp_bne,emp_beq];done)),H',⟨Nat.le_refl _⟩,by repeat (first|exact Drawn0.refl _|apply Drawn0.step)⟩
  case round =>
   clear H'
   try clear c1
   try clear p2
   try clear c3
   try clear c3b0
   try clear c3b1
   try clear c3b2
   obtain ⟨x5_1,rfl,HA,HK1,⟨m1,rfl⟩⟩:=hrel
   cases gk with
   | zero=>exact absurd HA.out (by simp [laws_eqStringS.l0])
   | succ k1 =>
    have H:=HA.out
    clear HA
    simp only [laws_eqStringS.l0] at H
    by_cases c4:x5_1 < (l0.length:Int)
    ·rw [if_pos c4] at H
     have c4b0:decide (x5_1 < (l0.length:Int)) = true:=decide_eq_true c4
     clear c4
     by_cases c5:0 ≤ x5_1
     ·rw [if_pos c5] at H
      have c5b0:decide (0 ≤ x5_1) = true:=decide_eq_true c5
      clear c5
      by_cases c6:x5_1 < (l1.length:Int)
      ·rw [if_pos c6] at H
       have c6b0:decide (x5_1 < (l1.length:Int)) = true:=decide_eq_true c6
       clear c6
       by_cases c7:(rdOf ByteArray.empty l0 x5_1).toList = (rdOf ByteArray.empty l1 x5_1).toList
       ·rw [if_pos c7] at H
        have c7b0:((rdOf ByteArray.empty l0 x5_1).toList == (rdOf ByteArray.empty l1 x5_1).toList) = true:=beq_iff_eq.mpr c7
        have c7b1:((rdOf ByteArray.empty l0 x5_1).toList != (rdOf ByteArray.empty l1 x5_1).toList) = false:=bne_eq_false_iff_eq.mpr c7
        clear c7
        have H':=Aside0.mk H
        clear H
        have p146:0 ≤ (x5_1:Int):=of_decide_eq_true (by first|(with_reducible assumption)|assumption)
        have q146:x5_1 < (l0.length:Int):=of_decide_eq_true (by first|(with_reducible assumption)|assumption)
        obtain ⟨ad146,e146,hx146_0⟩:=Kd.at_string HR0.out x5_1 p146 q146
        cases e146
        replace p146:=eq_true p146
        replace q146:=eq_true q146
        have p147:0 ≤ (x5_1:Int):=of_decide_eq_true (by first|(with_reducible assumption)|assumption)
        have q147:x5_1 < (l1.length:Int):=of_decide_eq_true (by first|(with_reducible assumption)|assumption)
        obtain ⟨ad147,e147,hx147_0⟩:=Kd.at_string HR1.out x5_1 p147 q147
        cases e147
        replace p147:=eq_true p147
        replace q147:=eq_true q147
        go_wp2
        repeat (go_quiet (fail);try go_wp2)
        go_roundg k1
        case measure=>have:=HK1.out;omega
        case rel=>exact ⟨(wrap64 (x5_1 + 1)),(by first|rfl|(simp;done)|(simp only [i64_w,i32_w];done)|(simp only [i64_w,i32_w];rfl)|(simp [*];done)|(simp [emp_bne,emp_beq];done)),H',⟨by have:=HK1.out;omega⟩,by repeat (first|exact Drawn0.refl _|apply Drawn0.step)⟩
       ·rw [if_neg c7] at H
        have c7b0:((rdOf ByteArray.empty l0 x5_1).toList == (rdOf ByteArray.empty l1 x5_1).toList) = false:=beq_eq_false_iff_ne.mpr c7
        have c7b1:((rdOf ByteArray.empty l0 x5_1).toList != (rdOf ByteArray.empty l1 x5_1).toList) = true:=bne_iff_ne.mpr c7
        obtain rfl:=Option.some.inj H
        have p146:0 ≤ (x5_1:Int):=of_decide_eq_true (by first|(with_reducible assumption)|assumption)
        have q146:x5_1 < (l0.length:Int):=of_decide_eq_true (by first|(with_reducible assumption)|assumption)
        obtain ⟨ad146,e146,hx146_0⟩:=Kd.at_string HR0.out x5_1 p146 q146
        cases e146
        replace p146:=eq_true p146
        replace q146:=eq_true q146
        have p147:0 ≤ (x5_1:Int):=of_decide_eq_true (by first|(with_reducible assumption)|assumption)
        have q147:x5_1 < (l1.length:Int):=of_decide_eq_true (by first|(with_reducible assumption)|assumption)
        obtain ⟨ad147,e147,hx147_0⟩:=Kd.at_string HR1.out x5_1 p147 q147
        cases e147
        replace p147:=eq_true p147
        replace q147:=eq_true q147
        go_wp2
        repeat (go_quiet (fail);try go_wp2)
        go_ret
        exact ⟨by first|rfl|(simp;done)|(simp only [i64_w,i32_w];done)|(simp only [i64_w,i32_w];rfl)|(simp [*];done)|(simp [emp_bne,emp_beq];done),by repeat (first|exact Drawn0.refl _|apply Drawn0.step)⟩
      ·rw [if_neg c6] at H
       exact absurd H (by simp)
     ·rw [if_neg c5] at H
      exact absurd H (by simp)
    ·rw [if_neg c4] at H
     have c4b0:decide (x5_1 < (l0.length:Int)) = false:=decide_eq_false c4
     clear c4
     obtain rfl:=Option.some.inj H
     go_wp2
     repeat (go_quiet (fail);try go_wp2)
     go_ret
     exact ⟨by first|rfl|(simp;done)|(simp only [i64_w,i32_w];done)|(simp only [i64_w,i32_w];rfl)|(simp [*];done)|(simp [emp_bne,emp_beq];done),by repeat (first|exact Drawn0.refl _|apply Drawn0.step)⟩
 ·rw [if_neg c3] at H
  have c3b0:((l0.length:Int) == (l1.length:Int)) = false:=beq_eq_false_iff_ne.mpr c3
  have c3b1:((l0.length:Int) != (l1.length:Int)) = true:=bne_iff_ne.mpr c3
  have c3b2:(l0.length == l1.length) = false:=by first|simpa using c3|(simp at c3 ⊢;omega)
  obtain rfl:=Option.some.inj H
  go_enter Try.func43,Try.ntmps43
  go_wp2
  repeat (go_quiet (fail);try go_wp2)
  go_ret
  exact ⟨by first|rfl|(simp;done)|(simp only [i64_w,i32_w];done)|(simp only [i64_w,i32_w];rfl)|(simp [*];done)|(simp [emp_bne,emp_beq];done),by repeat (first|exact Drawn0.refl _|apply Drawn0.step)⟩

/-! ### laws_eqRule: function 60 -/
def laws_eqRule.f (a0_0:Bool) (a0_1:ByteArray) (a1_0:Bool) (a1_1:ByteArray):Option (Bool):=if (a0_0 != a1_0) = true then (some false) else (if a0_1.toList = a1_1.toList then (some true) else (some false))
theorem laws_eqRule.calls (a0_0:Bool) (a0_1:ByteArray) (a1_0:Bool) (a1_1:ByteArray) (r:Bool) (w:World) (h:laws_eqRule.f a0_0 a0_1 a1_0 a1_1 = some r) :
  Calls Try.prog 60 #[.agg #[.bool a0_0, .string a0_1], .agg #[.bool a1_0, .string a1_1]] w fun e w'=>e = .returned (.bool r) ∧ Below w.heap.size w w':=by
 have hu57:=Try.underlying57
 have HB:=Aside0.mk (Below.refl w.heap.size w)
 have H:(if (a0_0 != a1_0) = true then (some false) else (if a0_1.toList = a1_1.toList then (some true) else (some false))) = some r:=h
 clear h
 by_cases c3:(a0_0 != a1_0) = true
 ·rw [if_pos c3] at H
  have c3b0:(a0_0 != a1_0) = true:=c3
  (try (have c3b1:decide (a0_0 = a1_0) = false:=by simpa using c3))
  (try (have c3b2:(a0_0 == a1_0) = false:=by simpa using c3))
  (try (have c3b3:¬ (a0_0 = a1_0):=by simpa using c3))
  clear c3
  obtain rfl:=Option.some.inj H
  go_enter Try.func60,Try.ntmps60
  go_wp2_with (first|((with_reducible refine gate_dst (N:=2) rfl ?_);refine box_event ?hg (N:=2) ?hd (cs:=#[.bool a0_0, .string a0_1]) (t:=57) ?hr ?_;(case hd=>rfl);(case hg=>rfl);(case hr=>first|(go_simp;done)|(go_simp;rfl));intro gb148 hg w4 hbox hb;have n0_:=Aside0.mk (below_step (by repeat (first|(with_reducible first|exact HB.out|apply below_alloc|apply pw_below_drewN|apply below_drew1)|exact HB.out)) hb);have n1_:=Aside0.mk (hbox);have n2_:=Aside0.mk ((by rw [hg];exact (below_size (by repeat (first|(with_reducible first|exact HB.out|apply below_alloc|apply pw_below_drewN|apply below_drew1)|exact HB.out))):w.heap.size ≤ gb148));have n3_:=n2_;clear HB;have HB:=n0_;have BK148:=n1_;have GW148:=n2_;have GE148:=n3_;clear n0_ n1_ n2_ n3_;clear hb hbox hg)|((with_reducible refine gate_dst (N:=3) rfl ?_);refine box_event ?hg (N:=3) ?hd (cs:=#[.bool a1_0, .string a1_1]) (t:=57) ?hr ?_;(case hd=>rfl);(case hg=>rfl);(case hr=>first|(go_simp;done)|(go_simp;rfl));intro gb149 hg w5 hbox hb;have n0_:=Aside0.mk (blk_below (g:=gb148) (o:=.cells #[.bool a0_0, .string a0_1] 57 (0,0)) (by (with_reducible repeat (first|refine blk_drewN ?_ _|refine blk_drew ?_|refine blk_alloc ?_ _));exact BK148.out) hb);have n1_:=Aside0.mk (below_step (by repeat (first|(with_reducible first|exact HB.out|apply below_alloc|apply pw_below_drewN|apply below_drew1|refine below_set ?_ GE148.out)|exact HB.out)) hb);have n2_:=Aside0.mk (hbox);have n3_:=Aside0.mk ((by rw [hg];exact (below_size (by repeat (first|(with_reducible first|exact HB.out|apply below_alloc|apply pw_below_drewN|apply below_drew1|refine below_set ?_ GE148.out)|exact HB.out))):w.heap.size ≤ gb149));have n4_:=n3_;have n5_:=Aside0.mk ((by rw [hg];exact Nat.ne_of_lt (blk_lt (g:=gb148) (o:=.cells #[.bool a0_0, .string a0_1] 57 (0,0)) (by (with_reducible repeat (first|refine blk_drewN ?_ _|refine blk_drew ?_|refine blk_alloc ?_ _));exact BK148.out)):gb148 ≠ gb149));have n6_:=Aside0.mk ((by rw [hg];exact Nat.ne_of_gt (blk_lt (g:=gb148) (o:=.cells #[.bool a0_0, .string a0_1] 57 (0,0)) (by (with_reducible repeat (first|refine blk_drewN ?_ _|refine blk_drew ?_|refine blk_alloc ?_ _));exact BK148.out)):gb149 ≠ gb148));clear BK148;clear HB;have BK148:=n0_;have HB:=n1_;have BK149:=n2_;have GW149:=n3_;have GE149:=n4_;have NB148_149:=n5_;have NB149_148:=n6_;clear n0_ n1_ n2_ n3_ n4_ n5_ n6_;clear hb hbox hg;have hnb6:=NB148_149.out;have hnc6:=NB149_148.out;have hcz7_0:w5.cell? ⟨gb148,0,none⟩ = some (.bool a0_0):=(blk_cell BK148.out 0).trans rfl;have hcz7_1:w5.cell? ⟨gb148,1,none⟩ = some (.string a0_1):=(blk_cell BK148.out 1).trans rfl;have hfz7_0:=blk_frozen BK148.out 0;have hfz7_1:=blk_frozen BK148.out 1;have hcz8_0:w5.cell? ⟨gb149,0,none⟩ = some (.bool a1_0):=(blk_cell BK149.out 0).trans rfl;have hcz8_1:w5.cell? ⟨gb149,1,none⟩ = some (.string a1_1):=(blk_cell BK149.out 1).trans rfl;have hfz8_0:=blk_frozen BK149.out 0;have hfz8_1:=blk_frozen BK149.out 1))
  go_ret
  exact ⟨by first|rfl|(simp <;> rfl)|(simp [*] <;> rfl),by repeat (first|(with_reducible first|exact HB.out|apply below_alloc|apply pw_below_drewN|apply below_drew1|refine below_set ?_ GE148.out|refine below_set ?_ GE149.out)|exact HB.out)⟩
 ·rw [if_neg c3] at H
  have c3b0:(a0_0 != a1_0) = false:=by simpa using c3
  (try (have c3b1:decide (a0_0 = a1_0) = true:=by simpa using c3))
  (try (have c3b2:(a0_0 == a1_0) = true:=by simpa using c3))
  clear c3
  by_cases c9:a0_1.toList = a1_1.toList
  ·rw [if_pos c9] at H
   have c9b0:(a0_1.toList == a1_1.toList) = true:=beq_iff_eq.mpr c9
   have c9b1:(a0_1.toList != a1_1.toList) = false:=bne_eq_false_iff_eq.mpr c9
   clear c9
   obtain rfl:=Option.some.inj H
   go_enter Try.func60,Try.ntmps60
   go_wp2_with (first|((with_reducible refine gate_dst (N:=2) rfl ?_);refine box_event ?hg (N:=2) ?hd (cs:=#[.bool a0_0, .string a0_1]) (t:=57) ?hr ?_;(case hd=>rfl);(case hg=>rfl);(case hr=>first|(go_simp;done)|(go_simp;rfl));intro gb148 hg w10 hbox hb;have n0_:=Aside0.mk (below_step (by repeat (first|(with_reducible first|exact HB.out|apply below_alloc|apply pw_below_drewN|apply below_drew1)|exact HB.out)) hb);have n1_:=Aside0.mk (hbox);have n2_:=Aside0.mk ((by rw [hg];exact (below_size (by repeat (first|(with_reducible first|exact HB.out|apply below_alloc|apply pw_below_drewN|apply below_drew1)|exact HB.out))):w.heap.size ≤ gb148));have n3_:=n2_;clear HB;have HB:=n0_;have BK148:=n1_;have GW148:=n2_;have GE148:=n3_;clear n0_ n1_ n2_ n3_;clear hb hbox hg)|((with_reducible refine gate_dst (N:=3) rfl ?_);refine box_event ?hg (N:=3) ?hd (cs:=#[.bool a1_0, .string a1_1]) (t:=57) ?hr ?_;(case hd=>rfl);(case hg=>rfl);(case hr=>first|(go_simp;done)|(go_simp;rfl));intro gb149 hg w11 hbox hb;have n0_:=Aside0.mk (blk_below (g:=gb148) (o:=.cells #[.bool a0_0, .string a0_1] 57 (0,0)) (by (with_reducible repeat (first|refine blk_drewN ?_ _|refine blk_drew ?_|refine blk_alloc ?_ _));exact BK148.out) hb);have n1_:=Aside0.mk (below_step (by repeat (first|(with_reducible first|exact HB.out|apply below_alloc|apply pw_below_drewN|apply below_drew1|refine below_set ?_ GE148.out)|exact HB.out)) hb);have n2_:=Aside0.mk (hbox);have n3_:=Aside0.mk ((by rw [hg];exact (below_size (by repeat (first|(with_reducible first|exact HB.out|apply below_alloc|apply pw_below_drewN|apply below_drew1|refine below_set ?_ GE148.out)|exact HB.out))):w.heap.size ≤ gb149));have n4_:=n3_;have n5_:=Aside0.mk ((by rw [hg];exact Nat.ne_of_lt (blk_lt (g:=gb148) (o:=.cells #[.bool a0_0, .string a0_1] 57 (0,0)) (by (with_reducible repeat (first|refine blk_drewN ?_ _|refine blk_drew ?_|refine blk_alloc ?_ _));exact BK148.out)):gb148 ≠ gb149));have n6_:=Aside0.mk ((by rw [hg];exact Nat.ne_of_gt (blk_lt (g:=gb148) (o:=.cells #[.bool a0_0, .string a0_1] 57 (0,0)) (by (with_reducible repeat (first|refine blk_drewN ?_ _|refine blk_drew ?_|refine blk_alloc ?_ _));exact BK148.out)):gb149 ≠ gb148));clear BK148;clear HB;have BK148:=n0_;have HB:=n1_;have BK149:=n2_;have GW149:=n3_;have GE149:=n4_;have NB148_149:=n5_;have NB149_148:=n6_;clear n0_ n1_ n2_ n3_ n4_ n5_ n6_;clear hb hbox hg;have hnb12:=NB148_149.out;have hnc12:=NB149_148.out;have hcz13_0:w11.cell? ⟨gb148,0,none⟩ = some (.bool a0_0):=(blk_cell BK148.out 0).trans rfl;have hcz13_1:w11.cell? ⟨gb148,1,none⟩ = some (.string a0_1):=(blk_cell BK148.out 1).trans rfl;have hfz13_0:=blk_frozen BK148.out 0;have hfz13_1:=blk_frozen BK148.out 1;have hcz14_0:w11.cell? ⟨gb149,0,none⟩ = some (.bool a1_0):=(blk_cell BK149.out 0).trans rfl;have hcz14_1:w11.cell? ⟨gb149,1,none⟩ = some (.string a1_1):=(blk_cell BK149.out 1).trans rfl;have hfz14_0:=blk_frozen BK149.out 0;have hfz14_1:=blk_frozen BK149.out 1))
   go_ret
   exact ⟨by first|rfl|(simp <;> rfl)|(simp [*] <;> rfl),by repeat (first|(with_reducible first|exact HB.out|apply below_alloc|apply pw_below_drewN|apply below_drew1|refine below_set ?_ GE148.out|refine below_set ?_ GE149.out)|exact HB.out)⟩
  ·rw [if_neg c9] at H
   have c9b0:(a0_1.toList == a1_1.toList) = false:=beq_eq_false_iff_ne.mpr c9
   have c9b1:(a0_1.toList != a1_1.toList) = true:=bne_iff_ne.mpr c9
   obtain rfl:=Option.some.inj H
   go_enter Try.func60,Try.ntmps60
   go_wp2_with (first|((with_reducible refine gate_dst (N:=2) rfl ?_);refine box_event ?hg (N:=2) ?hd (cs:=#[.bool a0_0, .string a0_1]) (t:=57) ?hr ?_;(case hd=>rfl);(case hg=>rfl);(case hr=>first|(go_simp;done)|(go_simp;rfl));intro gb148 hg w15 hbox hb;have n0_:=Aside0.mk (below_step (by repeat (first|(with_reducible first|exact HB.out|apply below_alloc|apply pw_below_drewN|apply below_drew1)|exact HB.out)) hb);have n1_:=Aside0.mk (hbox);have n2_:=Aside0.mk ((by rw [hg];exact (below_size (by repeat (first|(with_reducible first|exact HB.out|apply below_alloc|apply pw_below_drewN|apply below_drew1)|exact HB.out))):w.heap.size ≤ gb148));have n3_:=n2_;clear HB;have HB:=n0_;have BK148:=n1_;have GW148:=n2_;have GE148:=n3_;clear n0_ n1_ n2_ n3_;clear hb hbox hg)|((with_reducible refine gate_dst (N:=3) rfl ?_);refine box_event ?hg (N:=3) ?hd (cs:=#[.bool a1_0, .string a1_1]) (t:=57) ?hr ?_;(case hd=>rfl);(case hg=>rfl);(case hr=>first|(go_simp;done)|(go_simp;rfl));intro gb149 hg w16 hbox hb;have n0_:=Aside0.mk (blk_below (g:=gb148) (o:=.cells #[.bool a0_0, .string a0_1] 57 (0,0)) (by (with_reducible repeat (first|refine blk_drewN ?_ _|refine blk_drew ?_|refine blk_alloc ?_ _));exact BK148.out) hb);have n1_:=Aside0.mk (below_step (by repeat (first|(with_reducible first|exact HB.out|apply below_alloc|apply pw_below_drewN|apply below_drew1|refine below_set ?_ GE148.out)|exact HB.out)) hb);have n2_:=Aside0.mk (hbox);have n3_:=Aside0.mk ((by rw [hg];exact (below_size (by repeat (first|(with_reducible first|exact HB.out|apply below_alloc|apply pw_below_drewN|apply below_drew1|refine below_set ?_ GE148.out)|exact HB.out))):w.heap.size ≤ gb149));have n4_:=n3_;have n5_:=Aside0.mk ((by rw [hg];exact Nat.ne_of_lt (blk_lt (g:=gb148) (o:=.cells #[.bool a0_0, .string a0_1] 57 (0,0)) (by (with_reducible repeat (first|refine blk_drewN ?_ _|refine blk_drew ?_|refine blk_alloc ?_ _));exact BK148.out)):gb148 ≠ gb149));have n6_:=Aside0.mk ((by rw [hg];exact Nat.ne_of_gt (blk_lt (g:=gb148) (o:=.cells #[.bool a0_0, .string a0_1] 57 (0,0)) (by (with_reducible repeat (first|refine blk_drewN ?_ _|refine blk_drew ?_|refine blk_alloc ?_ _));exact BK148.out)):gb149 ≠ gb148));clear BK148;clear HB;have BK148:=n0_;have HB:=n1_;have BK149:=n2_;have GW149:=n3_;have GE149:=n4_;have NB148_149:=n5_;have NB149_148:=n6_;clear n0_ n1_ n2_ n3_ n4_ n5_ n6_;clear hb hbox hg;have hnb17:=NB148_149.out;have hnc17:=NB149_148.out;have hcz18_0:w16.cell? ⟨gb148,0,none⟩ = some (.bool a0_0):=(blk_cell BK148.out 0).trans rfl;have hcz18_1:w16.cell? ⟨gb148,1,none⟩ = some (.string a0_1):=(blk_cell BK148.out 1).trans rfl;have hfz18_0:=blk_frozen BK148.out 0;have hfz18_1:=blk_frozen BK148.out 1;have hcz19_0:w16.cell? ⟨gb149,0,none⟩ = some (.bool a1_0):=(blk_cell BK149.out 0).trans rfl;have hcz19_1:w16.cell? ⟨gb149,1,none⟩ = some (.string a1_1):=(blk_cell BK149.out 1).trans rfl;have hfz19_0:=blk_frozen BK149.out 0;have hfz19_1:=blk_frozen BK149.out 1))
   go_ret
   exact ⟨by first|rfl|(simp <;> rfl)|(simp [*] <;> rfl),by repeat (first|(with_reducible first|exact HB.out|apply below_alloc|apply pw_below_drewN|apply below_drew1|refine below_set ?_ GE148.out|refine below_set ?_ GE149.out)|exact HB.out)⟩

/-! ### laws_eqRuleS: function 44 -/
def laws_eqRuleS.l0:Nat → List (S57) → List (S57) → Int → Option (Bool)
 | 0,_,_,_=>none
 | k + 1,x0,x1,x5=>if x5 < (x0.length:Int) then (if 0 ≤ x5 then (if x5 < (x1.length:Int) then ((laws_eqRule.f ((rd_T57 x0 x5).f0) ((rd_T57 x0 x5).f1) ((rd_T57 x1 x5).f0) ((rd_T57 x1 x5).f1)).bind fun t152=>(if t152 = true then (laws_eqRuleS.l0 k x0 x1 (wrap64 (x5 + 1))) else (some false))) else (none)) else (none)) else (some true)
def laws_eqRuleS.f (k:Nat) (l0:List (S57)) (l1:List (S57)):Option (Bool):=if (l0.length:Int) = (l1.length:Int) then (laws_eqRuleS.l0 k l0 l1 0) else (some false)
theorem laws_eqRuleS.mono_l:∀ k,(∀ y0 y1 y2,LeO (laws_eqRuleS.l0 k y0 y1 y2) (laws_eqRuleS.l0 (k + 1) y0 y1 y2))
 | 0=>fun _ _ _ r h=>by simp [laws_eqRuleS.l0] at h
 | k + 1=>by
  have ih0:=laws_eqRuleS.mono_l k
  ·intro y0 y1 y2
   unfold laws_eqRuleS.l0
   repeat' first
   | (with_reducible exact ih0 _ _ _)
   | (with_reducible exact LeO.refl _)
   | (with_reducible exact LeO.none _)
   | (with_reducible refine LeO.ite ?_ ?_)
   | (with_reducible refine LeO.bind ?_ (fun _=>?_))
   | exact ih0 _ _ _
   | exact LeO.none _
   | refine LeO.ite ?_ ?_
   | refine LeO.bind ?_ (fun _=>?_)
theorem laws_eqRuleS.mono:∀ a0 a1 k,LeO (laws_eqRuleS.f k a0 a1) (laws_eqRuleS.f (k + 1) a0 a1):=by
 intro a0 a1 k
 have ih0:=laws_eqRuleS.mono_l k
 unfold laws_eqRuleS.f
 repeat' first
   | (with_reducible exact ih0 _ _ _)
   | (with_reducible exact LeO.refl _)
   | (with_reducible exact LeO.none _)
   | (with_reducible refine LeO.ite ?_ ?_)
   | (with_reducible refine LeO.bind ?_ (fun _=>?_))
   | exact ih0 _ _ _
   | exact LeO.none _
   | refine LeO.ite ?_ ?_
   | refine LeO.bind ?_ (fun _=>?_)
def laws_eqRuleS.T6:Bool × List (List Nat × List Nat):=(true,[([],[]),([],[]),([0,1],[0,1]),([2],[2]),([],[]),([],[]),([4,5],[4,5]),([6],[6]),([3,7],[3,7]),([8],[8])])
def laws_eqRuleS.B6:List Nat:=[0,0,3,7,0,0,48,112,255,511]
theorem laws_eqRuleS.tab6:rtab .any (opsOf Try.f44 6) = laws_eqRuleS.T6:=by kernel_rfl
theorem laws_eqRuleS.bits6:waitsOk laws_eqRuleS.T6.2 laws_eqRuleS.B6 = true:=by kernel_rfl
theorem laws_eqRuleS.calls (k:Nat) (A0:Option Addr) (c0:Nat) (l0:List (S57)) (A1:Option Addr) (c1:Nat) (l1:List (S57)) (r:Bool) (w:World) (hr0:Kd.C k57 w A0 l0.length l0) (hc0:l0.length ≤ c0) (hr1:Kd.C k57 w A1 l1.length l1) (hc1:l1.length ≤ c1) (h:laws_eqRuleS.f k l0 l1 = some r) :
  Calls Try.prog 44 #[.slice A0 l0.length c0, .slice A1 l1.length c1] w fun e w'=>e = .returned (.bool r) ∧ Below w.heap.size w w':=by
 have hu57:=Try.underlying57
 have HR0:=Aside0.mk hr0
 have HC0:=Aside0.mk hc0
 clear hr0 hc0
 have HR1:=Aside0.mk hr1
 have HC1:=Aside0.mk hc1
 clear hr1 hc1
 have HB:=Aside0.mk (Below.refl w.heap.size w)
 have H:(if (l0.length:Int) = (l1.length:Int) then (laws_eqRuleS.l0 k l0 l1 0) else (some false)) = some r:=h
 clear h
 by_cases c3:(l0.length:Int) = (l1.length:Int)
 ·rw [if_pos c3] at H
  have c3b0:((l0.length:Int) == (l1.length:Int)) = true:=beq_iff_eq.mpr c3
  have c3b1:((l0.length:Int) != (l1.length:Int)) = false:=bne_eq_false_iff_eq.mpr c3
  have c3b2:(l0.length == l1.length) = true:=by first|simpa using c3|(simp at c3 ⊢;omega)
  clear c3
  have H':=Aside0.mk H
  clear H
  go_enter Try.func44,Try.ntmps44
  go_wp2
  go_loopg [5] k (fun kq v5 w'=>∃ (x5_1:Int),v5 = .int .i64 x5_1 ∧ Aside0 (laws_eqRuleS.l0 kq l0 l1 x5_1 = some r) ∧ Aside0 (kq ≤ k) ∧ Aside0 (Below w.heap.size w w'))
  case atStart=>exact ⟨(0),(by first|rfl|(simp;done)|(simp only [i64_w,i32_w];done)|(simp only [i64_w,i32_w];rfl)|(simp [*];done)|(simp [emp_bne,emp_beq];done)),H',⟨Nat.le_refl _⟩,⟨by repeat (first|(with_reducible first|exact HB.out|apply below_alloc|apply pw_below_drewN|apply below_drew1)|exact HB.out)⟩⟩
  case round =>
   clear H'
   try clear c1
   try clear p2
   try clear c3
   try clear c3b0
   try clear c3b1
   try clear c3b2
   obtain ⟨x5_1,rfl,HA,HK1,HB⟩:=hrel
   cases gk with
   | zero=>exact absurd HA.out (by simp [laws_eqRuleS.l0])
   | succ k1 =>
    have H:=HA.out
    clear HA
    simp only [laws_eqRuleS.l0] at H
    by_cases c4:x5_1 < (l0.length:Int)
    ·rw [if_pos c4] at H
     have c4b0:decide (x5_1 < (l0.length:Int)) = true:=decide_eq_true c4
     clear c4
     by_cases c5:0 ≤ x5_1
     ·rw [if_pos c5] at H
      have c5b0:decide (0 ≤ x5_1) = true:=decide_eq_true c5
      clear c5
      by_cases c6:x5_1 < (l1.length:Int)
      ·rw [if_pos c6] at H
       have c6b0:decide (x5_1 < (l1.length:Int)) = true:=decide_eq_true c6
       clear c6
       replace H:=Option.bind_eq_some_iff.mp H
       obtain ⟨t152,A70,H⟩:=H
       replace H:(if t152 = true then (laws_eqRuleS.l0 k1 l0 l1 (wrap64 (x5_1 + 1))) else (some false)) = some r:=H
       have A7:=Aside0.mk A70
       clear A70
       by_cases c8:t152 = true
       ·subst c8
        have H1:(laws_eqRuleS.l0 k1 l0 l1 (wrap64 (x5_1 + 1))) = some r:=by rw [if_pos rfl] at H;exact H
        clear H
        have H:=H1
        clear H1
        have H':=Aside0.mk H
        clear H
        try go_wp2
        have n0_:=Aside0.mk (below_drew1 HB.out)
        clear HB
        have HB:=n0_
        clear n0_
        have p150:0 ≤ (x5_1:Int):=of_decide_eq_true (by first|(with_reducible assumption)|assumption)
        have q150:x5_1 < (l0.length:Int):=of_decide_eq_true (by first|(with_reducible assumption)|assumption)
        obtain ⟨ad150,e150,hx150_0,hx150_1⟩:=at_T57 HR0.out x5_1 p150 q150
        have hw150_1:=hx150_1
        have hw150_0:=hx150_0
        cases e150
        replace hx150_0:=(HB.out.cell (World.block_lt_of_cell? w _ hx150_0)).trans hx150_0
        replace hx150_1:=(HB.out.cell (World.block_lt_of_cell? w _ hx150_1)).trans hx150_1
        replace p150:=eq_true p150
        replace q150:=eq_true q150
        have p151:0 ≤ (x5_1:Int):=of_decide_eq_true (by first|(with_reducible assumption)|assumption)
        have q151:x5_1 < (l1.length:Int):=of_decide_eq_true (by first|(with_reducible assumption)|assumption)
        obtain ⟨ad151,e151,hx151_0,hx151_1⟩:=at_T57 HR1.out x5_1 p151 q151
        have hw151_1:=hx151_1
        have hw151_0:=hx151_0
        cases e151
        replace hx151_0:=(HB.out.cell (World.block_lt_of_cell? w _ hx151_0)).trans hx151_0
        replace hx151_1:=(HB.out.cell (World.block_lt_of_cell? w _ hx151_1)).trans hx151_1
        replace p151:=eq_true p151
        replace q151:=eq_true q151
        refine start_ (n:=10) (S:=fun w'=>w'.cell? (ad150.add ((x5_1).toNat * 2)) = some (.bool ((rd_T57 l0 x5_1).f0)) ∧ w'.cell? ⟨(ad150.add ((x5_1).toNat * 2)).block,(ad150.add ((x5_1).toNat * 2)).off + 1,none⟩ = some (.string ((rd_T57 l0 x5_1).f1)) ∧ w'.cell? (ad151.add ((x5_1).toNat * 2)) = some (.bool ((rd_T57 l1 x5_1).f0)) ∧ w'.cell? ⟨(ad151.add ((x5_1).toNat * 2)).block,(ad151.add ((x5_1).toNat * 2)).off + 1,none⟩ = some (.string ((rd_T57 l1 x5_1).f1))) (ds:=[]) #[false,false,false,false,false,false,false,false,false,false] (by kernel_rfl) rfl rfl ⟨((HB.out.cell (World.block_lt_of_cell? w _ hw150_0)).trans hw150_0),((HB.out.cell (World.block_lt_of_cell? w _ hw150_1)).trans hw150_1),((HB.out.cell (World.block_lt_of_cell? w _ hw151_0)).trans hw151_0),((HB.out.cell (World.block_lt_of_cell? w _ hw151_1)).trans hw151_1)⟩ (fun hHeld=>?_);refine with_tabW laws_eqRuleS.tab6 laws_eqRuleS.bits6 (fun HT_ HW_=>?_)
        generalize wr.drew = w9 at HB hx150_0 hx150_1 hx151_0 hx151_1 hHeld ⊢
        refine pure_ (i:=0) (N:=some 17) (v:=?_) (a':=?_) #[true,false,false,false,false,false,false,false,false,false] rfl rfl (any_of HT_.out (by kernel_rfl)) (fun _ _ _ h=>h) (Or.inl ⟨by rfl,?_⟩) ?_ ?_
        rotate_left
        ·intro w'
         go_simp
         with_reducible rfl
        rotate_left
        ·simp only [Act.put,List.setIfInBounds_toArray,List.set_cons_zero,List.set_cons_succ,i64_w,i32_w]
         rfl
        refine pure_ (i:=1) (N:=some 18) (v:=?_) (a':=?_) #[true,true,false,false,false,false,false,false,false,false] rfl rfl (any_of HT_.out (by kernel_rfl)) (fun _ _ _ h=>h) (Or.inl ⟨by rfl,?_⟩) ?_ ?_
        rotate_left
        ·intro w'
         go_simp
         with_reducible rfl
        rotate_left
        ·simp only [Act.put,List.setIfInBounds_toArray,List.set_cons_zero,List.set_cons_succ,i64_w,i32_w]
         rfl
        refine pure_ (i:=2) (N:=some 19) (v:=?_) (a':=?_) #[true,true,true,false,false,false,false,false,false,false] rfl rfl (any_of HT_.out (by kernel_rfl)) (fun _ _ _ h=>h) (Or.inl ⟨by rfl,?_⟩) ?_ ?_
        rotate_left
        ·intro w'
         go_simp
         with_reducible rfl
        rotate_left
        ·simp only [Act.put,List.setIfInBounds_toArray,List.set_cons_zero,List.set_cons_succ,i64_w,i32_w]
         rfl
        refine pure_ (i:=4) (N:=some 21) (v:=?_) (a':=?_) #[true,true,true,false,true,false,false,false,false,false] rfl rfl (any_of HT_.out (by kernel_rfl)) (fun _ _ _ h=>h) (Or.inl ⟨by rfl,?_⟩) ?_ ?_
        rotate_left
        ·intro w'
         go_simp
         with_reducible rfl
        rotate_left
        ·simp only [Act.put,List.setIfInBounds_toArray,List.set_cons_zero,List.set_cons_succ,i64_w,i32_w]
         rfl
        refine pure_ (i:=5) (N:=some 22) (v:=?_) (a':=?_) #[true,true,true,false,true,true,false,false,false,false] rfl rfl (any_of HT_.out (by kernel_rfl)) (fun _ _ _ h=>h) (Or.inl ⟨by rfl,?_⟩) ?_ ?_
        rotate_left
        ·intro w'
         go_simp
         with_reducible rfl
        rotate_left
        ·simp only [Act.put,List.setIfInBounds_toArray,List.set_cons_zero,List.set_cons_succ,i64_w,i32_w]
         rfl
        refine pure_ (i:=6) (N:=some 23) (v:=?_) (a':=?_) #[true,true,true,false,true,true,true,false,false,false] rfl rfl (any_of HT_.out (by kernel_rfl)) (fun _ _ _ h=>h) (Or.inl ⟨by rfl,?_⟩) ?_ ?_
        rotate_left
        ·intro w'
         go_simp
         with_reducible rfl
        rotate_left
        ·simp only [Act.put,List.setIfInBounds_toArray,List.set_cons_zero,List.set_cons_succ,i64_w,i32_w]
         rfl
        refine take_ (i:=3) (N:=some 20) (v:=?_) (a':=?_) #[true,true,true,true,true,true,true,false,false,false] rfl rfl (take_ofW HT_.out HW_.out (by kernel_rfl)) (fun _ _ _ h=>h) (Or.inl ⟨by rfl,?_⟩) hHeld ?_ ?_
        rotate_left
        ·rintro w' ⟨s0,s1,s2,s3⟩
         go_simp
         with_reducible rfl
        rotate_left
        ·simp only [Act.put,List.setIfInBounds_toArray,List.set_cons_zero,List.set_cons_succ,i64_w,i32_w]
         rfl
        refine take_ (i:=7) (N:=some 24) (v:=?_) (a':=?_) #[true,true,true,true,true,true,true,true,false,false] rfl rfl (take_ofW HT_.out HW_.out (by kernel_rfl)) (fun _ _ _ h=>h) (Or.inl ⟨by rfl,?_⟩) hHeld ?_ ?_
        rotate_left
        ·rintro w' ⟨s0,s1,s2,s3⟩
         go_simp
         with_reducible rfl
        rotate_left
        ·simp only [Act.put,List.setIfInBounds_toArray,List.set_cons_zero,List.set_cons_succ,i64_w,i32_w]
         rfl
        refine one_ (i:=8) (N:=some 25) #[true,true,true,true,true,true,true,true,true,false] rfl rfl (one_of HT_.out (by kernel_rfl)) (by decide) (fun K hK=>?_)
        refine goes_ Try.func60 (by kernel_rfl) rfl #[.agg #[.bool ((rd_T57 l0 x5_1).f0), .string ((rd_T57 l0 x5_1).f1)], .agg #[.bool ((rd_T57 l1 x5_1).f0), .string ((rd_T57 l1 x5_1).f1)]] (by rfl) rfl rfl (by (try simp only [List.map_toArray,List.map_cons,List.map_nil]);first|done|rfl|(simp only [List.length_drop,List.length_take];rfl)) ?_
        with_reducible refine (laws_eqRule.calls ((rd_T57 l0 x5_1).f0) ((rd_T57 l0 x5_1).f1) ((rd_T57 l1 x5_1).f0) ((rd_T57 l1 x5_1).f1) true _ A7.out).mono ?_
        rintro e w10 ⟨rfl,hb⟩
        refine ⟨_,rfl,?_⟩
        have n0_:=Aside0.mk (below_step (by repeat (first|(with_reducible first|exact HB.out|apply below_alloc|apply pw_below_drewN|apply below_drew1)|exact HB.out)) hb)
        clear HB
        have HB:=n0_
        clear n0_
        (try clear hb)
        (try clear hb2)
        (try clear hk)
        (try clear hi)
        refine hK.out _ _ ⟨((HB.out.cell (World.block_lt_of_cell? w _ hw150_0)).trans hw150_0),((HB.out.cell (World.block_lt_of_cell? w _ hw150_1)).trans hw150_1),((HB.out.cell (World.block_lt_of_cell? w _ hw151_0)).trans hw151_0),((HB.out.cell (World.block_lt_of_cell? w _ hw151_1)).trans hw151_1)⟩ (fun hHeld=>?_)
        clear hK K
        refine norm_ (a':=?_) ?_ ?_
        rotate_left
        ·show Act.put _ (some 25) _ = _
         simp only [Act.put,List.setIfInBounds_toArray,List.set_cons_zero,List.set_cons_succ,i64_w,i32_w]
         rfl
        refine pure_ (i:=9) (N:=some 26) (v:=?_) (a':=?_) #[true,true,true,true,true,true,true,true,true,true] rfl rfl (any_of HT_.out (by kernel_rfl)) (fun _ _ _ h=>h) (Or.inl ⟨by rfl,?_⟩) ?_ ?_
        rotate_left
        ·intro w'
         go_simp
         with_reducible rfl
        rotate_left
        ·simp only [Act.put,List.setIfInBounds_toArray,List.set_cons_zero,List.set_cons_succ,i64_w,i32_w]
         rfl
        refine done_ (done_of HT_.out (by kernel_rfl)) ?_
        try go_wp2
        go_roundg k1
        case measure=>have:=HK1.out;omega
        case rel=>exact ⟨(wrap64 (x5_1 + 1)),(by first|rfl|(simp;done)|(simp only [i64_w,i32_w];done)|(simp only [i64_w,i32_w];rfl)|(simp [*];done)|(simp [emp_bne,emp_beq];done)),H',⟨by have:=HK1.out;omega⟩,⟨by repeat (first|(with_reducible first|exact HB.out|apply below_alloc|apply pw_below_drewN|apply below_drew1)|exact HB.out)⟩⟩
       ·replace c8:=Bool.eq_false_iff.mpr c8
        subst c8
        have H1:(some false) = some r:=by rw [if_neg (show ¬ (false = true) by decide)] at H;exact H
        clear H
        have H:=H1
        clear H1
        obtain rfl:=Option.some.inj H
        try go_wp2
        have n0_:=Aside0.mk (below_drew1 HB.out)
        clear HB
        have HB:=n0_
        clear n0_
        have p150:0 ≤ (x5_1:Int):=of_decide_eq_true (by first|(with_reducible assumption)|assumption)
        have q150:x5_1 < (l0.length:Int):=of_decide_eq_true (by first|(with_reducible assumption)|assumption)
        obtain ⟨ad150,e150,hx150_0,hx150_1⟩:=at_T57 HR0.out x5_1 p150 q150
        have hw150_1:=hx150_1
        have hw150_0:=hx150_0
        cases e150
        replace hx150_0:=(HB.out.cell (World.block_lt_of_cell? w _ hx150_0)).trans hx150_0
        replace hx150_1:=(HB.out.cell (World.block_lt_of_cell? w _ hx150_1)).trans hx150_1
        replace p150:=eq_true p150
        replace q150:=eq_true q150
        have p151:0 ≤ (x5_1:Int):=of_decide_eq_true (by first|(with_reducible assumption)|assumption)
        have q151:x5_1 < (l1.length:Int):=of_decide_eq_true (by first|(with_reducible assumption)|assumption)
        obtain ⟨ad151,e151,hx151_0,hx151_1⟩:=at_T57 HR1.out x5_1 p151 q151
        have hw151_1:=hx151_1
        have hw151_0:=hx151_0
        cases e151
        replace hx151_0:=(HB.out.cell (World.block_lt_of_cell? w _ hx151_0)).trans hx151_0
        replace hx151_1:=(HB.out.cell (World.block_lt_of_cell? w _ hx151_1)).trans hx151_1
        replace p151:=eq_true p151
        replace q151:=eq_true q151
        refine start_ (n:=10) (S:=fun w'=>w'.cell? (ad150.add ((x5_1).toNat * 2)) = some (.bool ((rd_T57 l0 x5_1).f0)) ∧ w'.cell? ⟨(ad150.add ((x5_1).toNat * 2)).block,(ad150.add ((x5_1).toNat * 2)).off + 1,none⟩ = some (.string ((rd_T57 l0 x5_1).f1)) ∧ w'.cell? (ad151.add ((x5_1).toNat * 2)) = some (.bool ((rd_T57 l1 x5_1).f0)) ∧ w'.cell? ⟨(ad151.add ((x5_1).toNat * 2)).block,(ad151.add ((x5_1).toNat * 2)).off + 1,none⟩ = some (.string ((rd_T57 l1 x5_1).f1))) (ds:=[]) #[false,false,false,false,false,false,false,false,false,false] (by kernel_rfl) rfl rfl ⟨((HB.out.cell (World.block_lt_of_cell? w _ hw150_0)).trans hw150_0),((HB.out.cell (World.block_lt_of_cell? w _ hw150_1)).trans hw150_1),((HB.out.cell (World.block_lt_of_cell? w _ hw151_0)).trans hw151_0),((HB.out.cell (World.block_lt_of_cell? w _ hw151_1)).trans hw151_1)⟩ (fun hHeld=>?_);refine with_tabW laws_eqRuleS.tab6 laws_eqRuleS.bits6 (fun HT_ HW_=>?_)
        generalize wr.drew = w11 at HB hx150_0 hx150_1 hx151_0 hx151_1 hHeld ⊢
        refine pure_ (i:=0) (N:=some 17) (v:=?_) (a':=?_) #[true,false,false,false,false,false,false,false,false,false] rfl rfl (any_of HT_.out (by kernel_rfl)) (fun _ _ _ h=>h) (Or.inl ⟨by rfl,?_⟩) ?_ ?_
        rotate_left
        ·intro w'
         go_simp
         with_reducible rfl
        rotate_left
        ·simp only [Act.put,List.setIfInBounds_toArray,List.set_cons_zero,List.set_cons_succ,i64_w,i32_w]
         rfl
        refine pure_ (i:=1) (N:=some 18) (v:=?_) (a':=?_) #[true,true,false,false,false,false,false,false,false,false] rfl rfl (any_of HT_.out (by kernel_rfl)) (fun _ _ _ h=>h) (Or.inl ⟨by rfl,?_⟩) ?_ ?_
        rotate_left
        ·intro w'
         go_simp
         with_reducible rfl
        rotate_left
        ·simp only [Act.put,List.setIfInBounds_toArray,List.set_cons_zero,List.set_cons_succ,i64_w,i32_w]
         rfl
        refine pure_ (i:=2) (N:=some 19) (v:=?_) (a':=?_) #[true,true,true,false,false,false,false,false,false,false] rfl rfl (any_of HT_.out (by kernel_rfl)) (fun _ _ _ h=>h) (Or.inl ⟨by rfl,?_⟩) ?_ ?_
        rotate_left
        ·intro w'
         go_simp
         with_reducible rfl
        rotate_left
        ·simp only [Act.put,List.setIfInBounds_toArray,List.set_cons_zero,List.set_cons_succ,i64_w,i32_w]
         rfl
        refine pure_ (i:=4) (N:=some 21) (v:=?_) (a':=?_) #[true,true,true,false,true,false,false,false,false,false] rfl rfl (any_of HT_.out (by kernel_rfl)) (fun _ _ _ h=>h) (Or.inl ⟨by rfl,?_⟩) ?_ ?_
        rotate_left
        ·intro w'
         go_simp
         with_reducible rfl
        rotate_left
        ·simp only [Act.put,List.setIfInBounds_toArray,List.set_cons_zero,List.set_cons_succ,i64_w,i32_w]
         rfl
        refine pure_ (i:=5) (N:=some 22) (v:=?_) (a':=?_) #[true,true,true,false,true,true,false,false,false,false] rfl rfl (any_of HT_.out (by kernel_rfl)) (fun _ _ _ h=>h) (Or.inl ⟨by rfl,?_⟩) ?_ ?_
        rotate_left
        ·intro w'
         go_simp
         with_reducible rfl
        rotate_left
        ·simp only [Act.put,List.setIfInBounds_toArray,List.set_cons_zero,List.set_cons_succ,i64_w,i32_w]
         rfl
        refine pure_ (i:=6) (N:=some 23) (v:=?_) (a':=?_) #[true,true,true,false,true,true,true,false,false,false] rfl rfl (any_of HT_.out (by kernel_rfl)) (fun _ _ _ h=>h) (Or.inl ⟨by rfl,?_⟩) ?_ ?_
        rotate_left
        ·intro w'
         go_simp
         with_reducible rfl
        rotate_left
        ·simp only [Act.put,List.setIfInBounds_toArray,List.set_cons_zero,List.set_cons_succ,i64_w,i32_w]
         rfl
        refine take_ (i:=3) (N:=some 20) (v:=?_) (a':=?_) #[true,true,true,true,true,true,true,false,false,false] rfl rfl (take_ofW HT_.out HW_.out (by kernel_rfl)) (fun _ _ _ h=>h) (Or.inl ⟨by rfl,?_⟩) hHeld ?_ ?_
        rotate_left
        ·rintro w' ⟨s0,s1,s2,s3⟩
         go_simp
         with_reducible rfl
        rotate_left
        ·simp only [Act.put,List.setIfInBounds_toArray,List.set_cons_zero,List.set_cons_succ,i64_w,i32_w]
         rfl
        refine take_ (i:=7) (N:=some 24) (v:=?_) (a':=?_) #[true,true,true,true,true,true,true,true,false,false] rfl rfl (take_ofW HT_.out HW_.out (by kernel_rfl)) (fun _ _ _ h=>h) (Or.inl ⟨by rfl,?_⟩) hHeld ?_ ?_
        rotate_left
        ·rintro w' ⟨s0,s1,s2,s3⟩
         go_simp
         with_reducible rfl
        rotate_left
        ·simp only [Act.put,List.setIfInBounds_toArray,List.set_cons_zero,List.set_cons_succ,i64_w,i32_w]
         rfl
        refine one_ (i:=8) (N:=some 25) #[true,true,true,true,true,true,true,true,true,false] rfl rfl (one_of HT_.out (by kernel_rfl)) (by decide) (fun K hK=>?_)
        refine goes_ Try.func60 (by kernel_rfl) rfl #[.agg #[.bool ((rd_T57 l0 x5_1).f0), .string ((rd_T57 l0 x5_1).f1)], .agg #[.bool ((rd_T57 l1 x5_1).f0), .string ((rd_T57 l1 x5_1).f1)]] (by rfl) rfl rfl (by (try simp only [List.map_toArray,List.map_cons,List.map_nil]);first|done|rfl|(simp only [List.length_drop,List.length_take];rfl)) ?_
        with_reducible refine (laws_eqRule.calls ((rd_T57 l0 x5_1).f0) ((rd_T57 l0 x5_1).f1) ((rd_T57 l1 x5_1).f0) ((rd_T57 l1 x5_1).f1) false _ A7.out).mono ?_
        rintro e w12 ⟨rfl,hb⟩
        refine ⟨_,rfl,?_⟩
        have n0_:=Aside0.mk (below_step (by repeat (first|(with_reducible first|exact HB.out|apply below_alloc|apply pw_below_drewN|apply below_drew1)|exact HB.out)) hb)
        clear HB
        have HB:=n0_
        clear n0_
        (try clear hb)
        (try clear hb2)
        (try clear hk)
        (try clear hi)
        refine hK.out _ _ ⟨((HB.out.cell (World.block_lt_of_cell? w _ hw150_0)).trans hw150_0),((HB.out.cell (World.block_lt_of_cell? w _ hw150_1)).trans hw150_1),((HB.out.cell (World.block_lt_of_cell? w _ hw151_0)).trans hw151_0),((HB.out.cell (World.block_lt_of_cell? w _ hw151_1)).trans hw151_1)⟩ (fun hHeld=>?_)
        clear hK K
        refine norm_ (a':=?_) ?_ ?_
        rotate_left
        ·show Act.put _ (some 25) _ = _
         simp only [Act.put,List.setIfInBounds_toArray,List.set_cons_zero,List.set_cons_succ,i64_w,i32_w]
         rfl
        refine pure_ (i:=9) (N:=some 26) (v:=?_) (a':=?_) #[true,true,true,true,true,true,true,true,true,true] rfl rfl (any_of HT_.out (by kernel_rfl)) (fun _ _ _ h=>h) (Or.inl ⟨by rfl,?_⟩) ?_ ?_
        rotate_left
        ·intro w'
         go_simp
         with_reducible rfl
        rotate_left
        ·simp only [Act.put,List.setIfInBounds_toArray,List.set_cons_zero,List.set_cons_succ,i64_w,i32_w]
         rfl
        refine done_ (done_of HT_.out (by kernel_rfl)) ?_
        try go_wp2
        go_ret
        exact ⟨by first|rfl|(simp <;> rfl)|(simp [*] <;> rfl),by repeat (first|(with_reducible first|exact HB.out|apply below_alloc|apply pw_below_drewN|apply below_drew1)|exact HB.out)⟩
      ·rw [if_neg c6] at H
       exact absurd H (by simp)
     ·rw [if_neg c5] at H
      exact absurd H (by simp)
    ·rw [if_neg c4] at H
     have c4b0:decide (x5_1 < (l0.length:Int)) = false:=decide_eq_false c4
     clear c4
     obtain rfl:=Option.some.inj H
     go_wp2
     go_ret
     exact ⟨by first|rfl|(simp <;> rfl)|(simp [*] <;> rfl),by repeat (first|(with_reducible first|exact HB.out|apply below_alloc|apply pw_below_drewN|apply below_drew1)|exact HB.out)⟩
 ·rw [if_neg c3] at H
  have c3b0:((l0.length:Int) == (l1.length:Int)) = false:=beq_eq_false_iff_ne.mpr c3
  have c3b1:((l0.length:Int) != (l1.length:Int)) = true:=bne_iff_ne.mpr c3
  have c3b2:(l0.length == l1.length) = false:=by first|simpa using c3|(simp at c3 ⊢;omega)
  obtain rfl:=Option.some.inj H
  go_enter Try.func44,Try.ntmps44
  go_wp2
  go_ret
  exact ⟨by first|rfl|(simp <;> rfl)|(simp [*] <;> rfl),by repeat (first|(with_reducible first|exact HB.out|apply below_alloc|apply pw_below_drewN|apply below_drew1)|exact HB.out)⟩

/-! ### laws_eqGroup: function 24 -/
def laws_eqGroup.f (k:Nat) (l0_0:List ByteArray) (l0_1:List (S57)) (a0_2:Int) (l1_0:List ByteArray) (l1_1:List (S57)) (a1_2:Int):Option (Bool):=(laws_eqStringS.f k l0_0 l1_0).bind fun t155=>(if t155 = true then ((laws_eqRuleS.f k l0_1 l1_1).bind fun t156=>(if t156 = true then (if a0_2 = a1_2 then (some true) else (some false)) else (some false))) else (some false))
theorem laws_eqGroup.mono:∀ a0 a1 a2 a3 a4 a5 k,LeO (laws_eqGroup.f k a0 a1 a2 a3 a4 a5) (laws_eqGroup.f (k + 1) a0 a1 a2 a3 a4 a5):=by
 intro a0 a1 a2 a3 a4 a5 k
 unfold laws_eqGroup.f
 repeat' first
   | (with_reducible exact laws_eqRuleS.mono _ _ _)
   | (with_reducible exact laws_eqStringS.mono _ _ _)
   | (with_reducible exact LeO.refl _)
   | (with_reducible exact LeO.none _)
   | (with_reducible refine LeO.ite ?_ ?_)
   | (with_reducible refine LeO.bind ?_ (fun _=>?_))
   | exact laws_eqRuleS.mono _ _ _
   | exact laws_eqStringS.mono _ _ _
   | exact LeO.none _
   | refine LeO.ite ?_ ?_
   | refine LeO.bind ?_ (fun _=>?_)
theorem laws_eqGroup.calls (k:Nat) (A0_0:Option Addr) (c0_0:Nat) (l0_0:List ByteArray) (A0_1:Option Addr) (c0_1:Nat) (l0_1:List (S57)) (a0_2:Int) (A1_0:Option Addr) (c1_0:Nat) (l1_0:List ByteArray) (A1_1:Option Addr) (c1_1:Nat) (l1_1:List (S57)) (a1_2:Int) (r:Bool) (w:World) (hr0_0:Kd.C Kd.string w A0_0 l0_0.length l0_0) (hc0_0:l0_0.length ≤ c0_0) (hr0_1:Kd.C k57 w A0_1 l0_1.length l0_1) (hc0_1:l0_1.length ≤ c0_1) (hr1_0:Kd.C Kd.string w A1_0 l1_0.length l1_0) (hc1_0:l1_0.length ≤ c1_0) (hr1_1:Kd.C k57 w A1_1 l1_1.length l1_1) (hc1_1:l1_1.length ≤ c1_1) (h:laws_eqGroup.f k l0_0 l0_1 a0_2 l1_0 l1_1 a1_2 = some r) :
  Calls Try.prog 24 #[.agg #[.slice A0_0 l0_0.length c0_0, .slice A0_1 l0_1.length c0_1, .int .i64 a0_2], .agg #[.slice A1_0 l1_0.length c1_0, .slice A1_1 l1_1.length c1_1, .int .i64 a1_2]] w fun e w'=>e = .returned (.bool r) ∧ Below w.heap.size w w':=by
 have hu30:=Try.underlying30
 have HR0_0:=Aside0.mk hr0_0
 have HC0_0:=Aside0.mk hc0_0
 clear hr0_0 hc0_0
 have HR0_1:=Aside0.mk hr0_1
 have HC0_1:=Aside0.mk hc0_1
 clear hr0_1 hc0_1
 have HR1_0:=Aside0.mk hr1_0
 have HC1_0:=Aside0.mk hc1_0
 clear hr1_0 hc1_0
 have HR1_1:=Aside0.mk hr1_1
 have HC1_1:=Aside0.mk hc1_1
 clear hr1_1 hc1_1
 have HB:=Aside0.mk (Below.refl w.heap.size w)
 have H:((laws_eqStringS.f k l0_0 l1_0).bind fun t155=>(if t155 = true then ((laws_eqRuleS.f k l0_1 l1_1).bind fun t156=>(if t156 = true then (if a0_2 = a1_2 then (some true) else (some false)) else (some false))) else (some false))) = some r:=h
 clear h
 replace H:=Option.bind_eq_some_iff.mp H
 obtain ⟨t155,A30,H⟩:=H
 replace H:(if t155 = true then ((laws_eqRuleS.f k l0_1 l1_1).bind fun t156=>(if t156 = true then (if a0_2 = a1_2 then (some true) else (some false)) else (some false))) else (some false)) = some r:=H
 have A3:=Aside0.mk A30
 clear A30
 by_cases c4:t155 = true
 ·subst c4
  have H1:((laws_eqRuleS.f k l0_1 l1_1).bind fun t156=>(if t156 = true then (if a0_2 = a1_2 then (some true) else (some false)) else (some false))) = some r:=by rw [if_pos rfl] at H;exact H
  clear H
  have H:=H1
  clear H1
  replace H:=Option.bind_eq_some_iff.mp H
  obtain ⟨t156,A50,H⟩:=H
  replace H:(if t156 = true then (if a0_2 = a1_2 then (some true) else (some false)) else (some false)) = some r:=H
  have A5:=Aside0.mk A50
  clear A50
  by_cases c6:t156 = true
  ·subst c6
   have H1:(if a0_2 = a1_2 then (some true) else (some false)) = some r:=by rw [if_pos rfl] at H;exact H
   clear H
   have H:=H1
   clear H1
   by_cases c7:a0_2 = a1_2
   ·rw [if_pos c7] at H
    have c7b0:(a0_2 == a1_2) = true:=beq_iff_eq.mpr c7
    have c7b1:(a0_2 != a1_2) = false:=bne_eq_false_iff_eq.mpr c7
    clear c7
    obtain rfl:=Option.some.inj H
    go_enter Try.func24,Try.ntmps24
    go_wp2_with (first|((with_reducible refine gate_dst (N:=2) rfl ?_);refine box_event ?hg (N:=2) ?hd (cs:=#[.slice A0_0 l0_0.length c0_0, .slice A0_1 l0_1.length c0_1, .int .i64 a0_2]) (t:=30) ?hr ?_;(case hd=>rfl);(case hg=>rfl);(case hr=>first|(go_simp;done)|(go_simp;rfl));intro gb153 hg w8 hbox hb;have n0_:=Aside0.mk (below_step (by repeat (first|(with_reducible first|exact HB.out|apply below_alloc|apply pw_below_drewN|apply below_drew1)|exact HB.out)) hb);have n1_:=Aside0.mk (hbox);have n2_:=Aside0.mk ((by rw [hg];exact (below_size (by repeat (first|(with_reducible first|exact HB.out|apply below_alloc|apply pw_below_drewN|apply below_drew1)|exact HB.out))):w.heap.size ≤ gb153));have n3_:=n2_;clear HB;have HB:=n0_;have BK153:=n1_;have GW153:=n2_;have GE153:=n3_;clear n0_ n1_ n2_ n3_;clear hb hbox hg)|((with_reducible refine gate_dst (N:=3) rfl ?_);refine box_event ?hg (N:=3) ?hd (cs:=#[.slice A1_0 l1_0.length c1_0, .slice A1_1 l1_1.length c1_1, .int .i64 a1_2]) (t:=30) ?hr ?_;(case hd=>rfl);(case hg=>rfl);(case hr=>first|(go_simp;done)|(go_simp;rfl));intro gb154 hg w9 hbox hb;have n0_:=Aside0.mk (blk_below (g:=gb153) (o:=.cells #[.slice A0_0 l0_0.length c0_0, .slice A0_1 l0_1.length c0_1, .int .i64 a0_2] 30 (0,0)) (by (with_reducible repeat (first|refine blk_drewN ?_ _|refine blk_drew ?_|refine blk_alloc ?_ _));exact BK153.out) hb);have n1_:=Aside0.mk (below_step (by repeat (first|(with_reducible first|exact HB.out|apply below_alloc|apply pw_below_drewN|apply below_drew1|refine below_set ?_ GE153.out)|exact HB.out)) hb);have n2_:=Aside0.mk (hbox);have n3_:=Aside0.mk ((by rw [hg];exact (below_size (by repeat (first|(with_reducible first|exact HB.out|apply below_alloc|apply pw_below_drewN|apply below_drew1|refine below_set ?_ GE153.out)|exact HB.out))):w.heap.size ≤ gb154));have n4_:=n3_;have n5_:=Aside0.mk ((by rw [hg];exact Nat.ne_of_lt (blk_lt (g:=gb153) (o:=.cells #[.slice A0_0 l0_0.length c0_0, .slice A0_1 l0_1.length c0_1, .int .i64 a0_2] 30 (0,0)) (by (with_reducible repeat (first|refine blk_drewN ?_ _|refine blk_drew ?_|refine blk_alloc ?_ _));exact BK153.out)):gb153 ≠ gb154));have n6_:=Aside0.mk ((by rw [hg];exact Nat.ne_of_gt (blk_lt (g:=gb153) (o:=.cells #[.slice A0_0 l0_0.length c0_0, .slice A0_1 l0_1.length c0_1, .int .i64 a0_2] 30 (0,0)) (by (with_reducible repeat (first|refine blk_drewN ?_ _|refine blk_drew ?_|refine blk_alloc ?_ _));exact BK153.out)):gb154 ≠ gb153));clear BK153;clear HB;have BK153:=n0_;have HB:=n1_;have BK154:=n2_;have GW154:=n3_;have GE154:=n4_;have NB153_154:=n5_;have NB154_153:=n6_;clear n0_ n1_ n2_ n3_ n4_ n5_ n6_;clear hb hbox hg;have hnb10:=NB153_154.out;have hnc10:=NB154_153.out;have hcz11_0:w9.cell? ⟨gb153,0,none⟩ = some (.slice A0_0 l0_0.length c0_0):=(blk_cell BK153.out 0).trans rfl;have hcz11_1:w9.cell? ⟨gb153,1,none⟩ = some (.slice A0_1 l0_1.length c0_1):=(blk_cell BK153.out 1).trans rfl;have hcz11_2:w9.cell? ⟨gb153,2,none⟩ = some (.int .i64 a0_2):=(blk_cell BK153.out 2).trans rfl;have hfz11_0:=blk_frozen BK153.out 0;have hfz11_1:=blk_frozen BK153.out 1;have hfz11_2:=blk_frozen BK153.out 2;have hcz12_0:w9.cell? ⟨gb154,0,none⟩ = some (.slice A1_0 l1_0.length c1_0):=(blk_cell BK154.out 0).trans rfl;have hcz12_1:w9.cell? ⟨gb154,1,none⟩ = some (.slice A1_1 l1_1.length c1_1):=(blk_cell BK154.out 1).trans rfl;have hcz12_2:w9.cell? ⟨gb154,2,none⟩ = some (.int .i64 a1_2):=(blk_cell BK154.out 2).trans rfl;have hfz12_0:=blk_frozen BK154.out 0;have hfz12_1:=blk_frozen BK154.out 1;have hfz12_2:=blk_frozen BK154.out 2)|((with_reducible refine gate_callee (f:=43) rfl ?_);refine goesL_ (some 9) rfl rfl Try.func43 (by kernel_rfl) rfl #[.slice A0_0 l0_0.length c0_0, .slice A1_0 l1_0.length c1_0] rfl (by (try simp only [List.map_toArray,List.map_cons,List.map_nil]);first|done|rfl|(simp only [List.length_drop,List.length_take];rfl)) ?_;(with_reducible refine (laws_eqStringS.calls k _ _ l0_0 _ _ l1_0 true _ ?side1 ?side2 ?side3 ?side4 A3.out).mono ?_);(case side1=>repeat (first|exact (Kd.C_below HR0_0.out HB.out)|(with_reducible refine Kd.C_alloc ?_ _)|(with_reducible refine Kd.C_drewN ?_ _)|(with_reducible refine Kd.C_drew ?_)));(case side2=>exact HC0_0.out);(case side3=>repeat (first|exact (Kd.C_below HR1_0.out HB.out)|(with_reducible refine Kd.C_alloc ?_ _)|(with_reducible refine Kd.C_drewN ?_ _)|(with_reducible refine Kd.C_drew ?_)));(case side4=>exact HC1_0.out);rintro e w' ⟨rfl,⟨nd,rfl⟩⟩;refine ⟨_,rfl,?_⟩)|((with_reducible refine gate_callee (f:=44) rfl ?_);refine goesL_ (some 15) rfl rfl Try.func44 (by kernel_rfl) rfl #[.slice A0_1 l0_1.length c0_1, .slice A1_1 l1_1.length c1_1] rfl (by (try simp only [List.map_toArray,List.map_cons,List.map_nil]);first|done|rfl|(simp only [List.length_drop,List.length_take];rfl)) ?_;(with_reducible refine (laws_eqRuleS.calls k _ _ l0_1 _ _ l1_1 true _ ?side1 ?side2 ?side3 ?side4 A5.out).mono ?_);(case side1=>repeat (first|exact (Kd.C_below HR0_1.out (by repeat (first|(with_reducible first|exact HB.out|apply below_alloc|apply pw_below_drewN|apply below_drew1|refine below_set ?_ GE153.out|refine below_set ?_ GE154.out)|exact HB.out)))|(with_reducible refine Kd.C_alloc ?_ _)|(with_reducible refine Kd.C_drewN ?_ _)|(with_reducible refine Kd.C_drew ?_)));(case side2=>exact HC0_1.out);(case side3=>repeat (first|exact (Kd.C_below HR1_1.out (by repeat (first|(with_reducible first|exact HB.out|apply below_alloc|apply pw_below_drewN|apply below_drew1|refine below_set ?_ GE153.out|refine below_set ?_ GE154.out)|exact HB.out)))|(with_reducible refine Kd.C_alloc ?_ _)|(with_reducible refine Kd.C_drewN ?_ _)|(with_reducible refine Kd.C_drew ?_)));(case side4=>exact HC1_1.out);rintro e w13 ⟨rfl,hb⟩;refine ⟨_,rfl,?_⟩;have n0_:=Aside0.mk (blk_below (g:=gb153) (o:=.cells #[.slice A0_0 l0_0.length c0_0, .slice A0_1 l0_1.length c0_1, .int .i64 a0_2] 30 (0,0)) (by (with_reducible repeat (first|refine blk_drewN ?_ _|refine blk_drew ?_|refine blk_alloc ?_ _));exact BK153.out) hb);have n1_:=Aside0.mk (blk_below (g:=gb154) (o:=.cells #[.slice A1_0 l1_0.length c1_0, .slice A1_1 l1_1.length c1_1, .int .i64 a1_2] 30 (0,0)) (by (with_reducible repeat (first|refine blk_drewN ?_ _|refine blk_drew ?_|refine blk_alloc ?_ _));exact BK154.out) hb);have n2_:=Aside0.mk (below_step (by repeat (first|(with_reducible first|exact HB.out|apply below_alloc|apply pw_below_drewN|apply below_drew1|refine below_set ?_ GE153.out|refine below_set ?_ GE154.out)|exact HB.out)) hb);clear BK153;clear BK154;clear HB;have BK153:=n0_;have BK154:=n1_;have HB:=n2_;clear n0_ n1_ n2_;(try clear hb);(try clear hb2);(try clear hk);(try clear hi);have hcz14_0:w13.cell? ⟨gb153,0,none⟩ = some (.slice A0_0 l0_0.length c0_0):=(blk_cell BK153.out 0).trans rfl;have hcz14_1:w13.cell? ⟨gb153,1,none⟩ = some (.slice A0_1 l0_1.length c0_1):=(blk_cell BK153.out 1).trans rfl;have hcz14_2:w13.cell? ⟨gb153,2,none⟩ = some (.int .i64 a0_2):=(blk_cell BK153.out 2).trans rfl;have hfz14_0:=blk_frozen BK153.out 0;have hfz14_1:=blk_frozen BK153.out 1;have hfz14_2:=blk_frozen BK153.out 2;have hcz15_0:w13.cell? ⟨gb154,0,none⟩ = some (.slice A1_0 l1_0.length c1_0):=(blk_cell BK154.out 0).trans rfl;have hcz15_1:w13.cell? ⟨gb154,1,none⟩ = some (.slice A1_1 l1_1.length c1_1):=(blk_cell BK154.out 1).trans rfl;have hcz15_2:w13.cell? ⟨gb154,2,none⟩ = some (.int .i64 a1_2):=(blk_cell BK154.out 2).trans rfl;have hfz15_0:=blk_frozen BK154.out 0;have hfz15_1:=blk_frozen BK154.out 1;have hfz15_2:=blk_frozen BK154.out 2))
    go_ret
    exact ⟨by first|rfl|(simp <;> rfl)|(simp [*] <;> rfl),by repeat (first|(with_reducible first|exact HB.out|apply below_alloc|apply pw_below_drewN|apply below_drew1|refine below_set ?_ GE153.out|refine below_set ?_ GE154.out)|exact HB.out)⟩
   ·rw [if_neg c7] at H
    have c7b0:(a0_2 == a1_2) = false:=beq_eq_false_iff_ne.mpr c7
    have c7b1:(a0_2 != a1_2) = true:=bne_iff_ne.mpr c7
    obtain rfl:=Option.some.inj H
    go_enter Try.func24,Try.ntmps24
    go_wp2_with (first|((with_reducible refine gate_dst (N:=2) rfl ?_);refine box_event ?hg (N:=2) ?hd (cs:=#[.slice A0_0 l0_0.length c0_0, .slice A0_1 l0_1.length c0_1, .int .i64 a0_2]) (t:=30) ?hr ?_;(case hd=>rfl);(case hg=>rfl);(case hr=>first|(go_simp;done)|(go_simp;rfl));intro gb153 hg w16 hbox hb;have n0_:=Aside0.mk (below_step (by repeat (first|(with_reducible first|exact HB.out|apply below_alloc|apply pw_below_drewN|apply below_drew1)|exact HB.out)) hb);have n1_:=Aside0.mk (hbox);have n2_:=Aside0.mk ((by rw [hg];exact (below_size (by repeat (first|(with_reducible first|exact HB.out|apply below_alloc|apply pw_below_drewN|apply below_drew1)|exact HB.out))):w.heap.size ≤ gb153));have n3_:=n2_;clear HB;have HB:=n0_;have BK153:=n1_;have GW153:=n2_;have GE153:=n3_;clear n0_ n1_ n2_ n3_;clear hb hbox hg)|((with_reducible refine gate_dst (N:=3) rfl ?_);refine box_event ?hg (N:=3) ?hd (cs:=#[.slice A1_0 l1_0.length c1_0, .slice A1_1 l1_1.length c1_1, .int .i64 a1_2]) (t:=30) ?hr ?_;(case hd=>rfl);(case hg=>rfl);(case hr=>first|(go_simp;done)|(go_simp;rfl));intro gb154 hg w17 hbox hb;have n0_:=Aside0.mk (blk_below (g:=gb153) (o:=.cells #[.slice A0_0 l0_0.length c0_0, .slice A0_1 l0_1.length c0_1, .int .i64 a0_2] 30 (0,0)) (by (with_reducible repeat (first|refine blk_drewN ?_ _|refine blk_drew ?_|refine blk_alloc ?_ _));exact BK153.out) hb);have n1_:=Aside0.mk (below_step (by repeat (first|(with_reducible first|exact HB.out|apply below_alloc|apply pw_below_drewN|apply below_drew1|refine below_set ?_ GE153.out)|exact HB.out)) hb);have n2_:=Aside0.mk (hbox);have n3_:=Aside0.mk ((by rw [hg];exact (below_size (by repeat (first|(with_reducible first|exact HB.out|apply below_alloc|apply pw_below_drewN|apply below_drew1|refine below_set ?_ GE153.out)|exact HB.out))):w.heap.size ≤ gb154));have n4_:=n3_;have n5_:=Aside0.mk ((by rw [hg];exact Nat.ne_of_lt (blk_lt (g:=gb153) (o:=.cells #[.slice A0_0 l0_0.length c0_0, .slice A0_1 l0_1.length c0_1, .int .i64 a0_2] 30 (0,0)) (by (with_reducible repeat (first|refine blk_drewN ?_ _|refine blk_drew ?_|refine blk_alloc ?_ _));exact BK153.out)):gb153 ≠ gb154));have n6_:=Aside0.mk ((by rw [hg];exact Nat.ne_of_gt (blk_lt (g:=gb153) (o:=.cells #[.slice A0_0 l0_0.length c0_0, .slice A0_1 l0_1.length c0_1, .int .i64 a0_2] 30 (0,0)) (by (with_reducible repeat (first|refine blk_drewN ?_ _|refine blk_drew ?_|refine blk_alloc ?_ _));exact BK153.out)):gb154 ≠ gb153));clear BK153;clear HB;have BK153:=n0_;have HB:=n1_;have BK154:=n2_;have GW154:=n3_;have GE154:=n4_;have NB153_154:=n5_;have NB154_153:=n6_;clear n0_ n1_ n2_ n3_ n4_ n5_ n6_;clear hb hbox hg;have hnb18:=NB153_154.out;have hnc18:=NB154_153.out;have hcz19_0:w17.cell? ⟨gb153,0,none⟩ = some (.slice A0_0 l0_0.length c0_0):=(blk_cell BK153.out 0).trans rfl;have hcz19_1:w17.cell? ⟨gb153,1,none⟩ = some (.slice A0_1 l0_1.length c0_1):=(blk_cell BK153.out 1).trans rfl;have hcz19_2:w17.cell? ⟨gb153,2,none⟩ = some (.int .i64 a0_2):=(blk_cell BK153.out 2).trans rfl;have hfz19_0:=blk_frozen BK153.out 0;have hfz19_1:=blk_frozen BK153.out 1;have hfz19_2:=blk_frozen BK153.out 2;have hcz20_0:w17.cell? ⟨gb154,0,none⟩ = some (.slice A1_0 l1_0.length c1_0):=(blk_cell BK154.out 0).trans rfl;have hcz20_1:w17.cell? ⟨gb154,1,none⟩ = some (.slice A1_1 l1_1.length c1_1):=(blk_cell BK154.out 1).trans rfl;have hcz20_2:w17.cell? ⟨gb154,2,none⟩ = some (.int .i64 a1_2):=(blk_cell BK154.out 2).trans rfl;have hfz20_0:=blk_frozen BK154.out 0;have hfz20_1:=blk_frozen BK154.out 1;have hfz20_2:=blk_frozen BK154.out 2)|((with_reducible refine gate_callee (f:=43) rfl ?_);refine goesL_ (some 9) rfl rfl Try.func43 (by kernel_rfl) rfl #[.slice A0_0 l0_0.length c0_0, .slice A1_0 l1_0.length c1_0] rfl (by (try simp only [List.map_toArray,List.map_cons,List.map_nil]);first|done|rfl|(simp only [List.length_drop,List.length_take];rfl)) ?_;(with_reducible refine (laws_eqStringS.calls k _ _ l0_0 _ _ l1_0 true _ ?side1 ?side2 ?side3 ?side4 A3.out).mono ?_);(case side1=>repeat (first|exact (Kd.C_below HR0_0.out HB.out)|(with_reducible refine Kd.C_alloc ?_ _)|(with_reducible refine Kd.C_drewN ?_ _)|(with_reducible refine Kd.C_drew ?_)));(case side2=>exact HC0_0.out);(case side3=>repeat (first|exact (Kd.C_below HR1_0.out HB.out)|(with_reducible refine Kd.C_alloc ?_ _)|(with_reducible refine Kd.C_drewN ?_ _)|(with_reducible refine Kd.C_drew ?_)));(case side4=>exact HC1_0.out);rintro e w' ⟨rfl,⟨nd,rfl⟩⟩;refine ⟨_,rfl,?_⟩)|((with_reducible refine gate_callee (f:=44) rfl ?_);refine goesL_ (some 15) rfl rfl Try.func44 (by kernel_rfl) rfl #[.slice A0_1 l0_1.length c0_1, .slice A1_1 l1_1.length c1_1] rfl (by (try simp only [List.map_toArray,List.map_cons,List.map_nil]);first|done|rfl|(simp only [List.length_drop,List.length_take];rfl)) ?_;(with_reducible refine (laws_eqRuleS.calls k _ _ l0_1 _ _ l1_1 true _ ?side1 ?side2 ?side3 ?side4 A5.out).mono ?_);(case side1=>repeat (first|exact (Kd.C_below HR0_1.out (by repeat (first|(with_reducible first|exact HB.out|apply below_alloc|apply pw_below_drewN|apply below_drew1|refine below_set ?_ GE153.out|refine below_set ?_ GE154.out)|exact HB.out)))|(with_reducible refine Kd.C_alloc ?_ _)|(with_reducible refine Kd.C_drewN ?_ _)|(with_reducible refine Kd.C_drew ?_)));(case side2=>exact HC0_1.out);(case side3=>repeat (first|exact (Kd.C_below HR1_1.out (by repeat (first|(with_reducible first|exact HB.out|apply below_alloc|apply pw_below_drewN|apply below_drew1|refine below_set ?_ GE153.out|refine below_set ?_ GE154.out)|exact HB.out)))|(with_reducible refine Kd.C_alloc ?_ _)|(with_reducible refine Kd.C_drewN ?_ _)|(with_reducible refine Kd.C_drew ?_)));(case side4=>exact HC1_1.out);rintro e w21 ⟨rfl,hb⟩;refine ⟨_,rfl,?_⟩;have n0_:=Aside0.mk (blk_below (g:=gb153) (o:=.cells #[.slice A0_0 l0_0.length c0_0, .slice A0_1 l0_1.length c0_1, .int .i64 a0_2] 30 (0,0)) (by (with_reducible repeat (first|refine blk_drewN ?_ _|refine blk_drew ?_|refine blk_alloc ?_ _));exact BK153.out) hb);have n1_:=Aside0.mk (blk_below (g:=gb154) (o:=.cells #[.slice A1_0 l1_0.length c1_0, .slice A1_1 l1_1.length c1_1, .int .i64 a1_2] 30 (0,0)) (by (with_reducible repeat (first|refine blk_drewN ?_ _|refine blk_drew ?_|refine blk_alloc ?_ _));exact BK154.out) hb);have n2_:=Aside0.mk (below_step (by repeat (first|(with_reducible first|exact HB.out|apply below_alloc|apply pw_below_drewN|apply below_drew1|refine below_set ?_ GE153.out|refine below_set ?_ GE154.out)|exact HB.out)) hb);clear BK153;clear BK154;clear HB;have BK153:=n0_;have BK154:=n1_;have HB:=n2_;clear n0_ n1_ n2_;(try clear hb);(try clear hb2);(try clear hk);(try clear hi);have hcz22_0:w21.cell? ⟨gb153,0,none⟩ = some (.slice A0_0 l0_0.length c0_0):=(blk_cell BK153.out 0).trans rfl;have hcz22_1:w21.cell? ⟨gb153,1,none⟩ = some (.slice A0_1 l0_1.length c0_1):=(blk_cell BK153.out 1).trans rfl;have hcz22_2:w21.cell? ⟨gb153,2,none⟩ = some (.int .i64 a0_2):=(blk_cell BK153.out 2).trans rfl;have hfz22_0:=blk_frozen BK153.out 0;have hfz22_1:=blk_frozen BK153.out 1;have hfz22_2:=blk_frozen BK153.out 2;have hcz23_0:w21.cell? ⟨gb154,0,none⟩ = some (.slice A1_0 l1_0.length c1_0):=(blk_cell BK154.out 0).trans rfl;have hcz23_1:w21.cell? ⟨gb154,1,none⟩ = some (.slice A1_1 l1_1.length c1_1):=(blk_cell BK154.out 1).trans rfl;have hcz23_2:w21.cell? ⟨gb154,2,none⟩ = some (.int .i64 a1_2):=(blk_cell BK154.out 2).trans rfl;have hfz23_0:=blk_frozen BK154.out 0;have hfz23_1:=blk_frozen BK154.out 1;have hfz23_2:=blk_frozen BK154.out 2))
    go_ret
    exact ⟨by first|rfl|(simp <;> rfl)|(simp [*] <;> rfl),by repeat (first|(with_reducible first|exact HB.out|apply below_alloc|apply pw_below_drewN|apply below_drew1|refine below_set ?_ GE153.out|refine below_set ?_ GE154.out)|exact HB.out)⟩
  ·replace c6:=Bool.eq_false_iff.mpr c6
   subst c6
   have H1:(some false) = some r:=by rw [if_neg (show ¬ (false = true) by decide)] at H;exact H
   clear H
   have H:=H1
   clear H1
   obtain rfl:=Option.some.inj H
   go_enter Try.func24,Try.ntmps24
   go_wp2_with (first|((with_reducible refine gate_dst (N:=2) rfl ?_);refine box_event ?hg (N:=2) ?hd (cs:=#[.slice A0_0 l0_0.length c0_0, .slice A0_1 l0_1.length c0_1, .int .i64 a0_2]) (t:=30) ?hr ?_;(case hd=>rfl);(case hg=>rfl);(case hr=>first|(go_simp;done)|(go_simp;rfl));intro gb153 hg w24 hbox hb;have n0_:=Aside0.mk (below_step (by repeat (first|(with_reducible first|exact HB.out|apply below_alloc|apply pw_below_drewN|apply below_drew1)|exact HB.out)) hb);have n1_:=Aside0.mk (hbox);have n2_:=Aside0.mk ((by rw [hg];exact (below_size (by repeat (first|(with_reducible first|exact HB.out|apply below_alloc|apply pw_below_drewN|apply below_drew1)|exact HB.out))):w.heap.size ≤ gb153));have n3_:=n2_;clear HB;have HB:=n0_;have BK153:=n1_;have GW153:=n2_;have GE153:=n3_;clear n0_ n1_ n2_ n3_;clear hb hbox hg)|((with_reducible refine gate_dst (N:=3) rfl ?_);refine box_event ?hg (N:=3) ?hd (cs:=#[.slice A1_0 l1_0.length c1_0, .slice A1_1 l1_1.length c1_1, .int .i64 a1_2]) (t:=30) ?hr ?_;(case hd=>rfl);(case hg=>rfl);(case hr=>first|(go_simp;done)|(go_simp;rfl));intro gb154 hg w25 hbox hb;have n0_:=Aside0.mk (blk_below (g:=gb153) (o:=.cells #[.slice A0_0 l0_0.length c0_0, .slice A0_1 l0_1.length c0_1, .int .i64 a0_2] 30 (0,0)) (by (with_reducible repeat (first|refine blk_drewN ?_ _|refine blk_drew ?_|refine blk_alloc ?_ _));exact BK153.out) hb);have n1_:=Aside0.mk (below_step (by repeat (first|(with_reducible first|exact HB.out|apply below_alloc|apply pw_below_drewN|apply below_drew1|refine below_set ?_ GE153.out)|exact HB.out)) hb);have n2_:=Aside0.mk (hbox);have n3_:=Aside0.mk ((by rw [hg];exact (below_size (by repeat (first|(with_reducible first|exact HB.out|apply below_alloc|apply pw_below_drewN|apply below_drew1|refine below_set ?_ GE153.out)|exact HB.out))):w.heap.size ≤ gb154));have n4_:=n3_;have n5_:=Aside0.mk ((by rw [hg];exact Nat.ne_of_lt (blk_lt (g:=gb153) (o:=.cells #[.slice A0_0 l0_0.length c0_0, .slice A0_1 l0_1.length c0_1, .int .i64 a0_2] 30 (0,0)) (by (with_reducible repeat (first|refine blk_drewN ?_ _|refine blk_drew ?_|refine blk_alloc ?_ _));exact BK153.out)):gb153 ≠ gb154));have n6_:=Aside0.mk ((by rw [hg];exact Nat.ne_of_gt (blk_lt (g:=gb153) (o:=.cells #[.slice A0_0 l0_0.length c0_0, .slice A0_1 l0_1.length c0_1, .int .i64 a0_2] 30 (0,0)) (by (with_reducible repeat (first|refine blk_drewN ?_ _|refine blk_drew ?_|refine blk_alloc ?_ _));exact BK153.out)):gb154 ≠ gb153));clear BK153;clear HB;have BK153:=n0_;have HB:=n1_;have BK154:=n2_;have GW154:=n3_;have GE154:=n4_;have NB153_154:=n5_;have NB154_153:=n6_;clear n0_ n1_ n2_ n3_ n4_ n5_ n6_;clear hb hbox hg;have hnb26:=NB153_154.out;have hnc26:=NB154_153.out;have hcz27_0:w25.cell? ⟨gb153,0,none⟩ = some (.slice A0_0 l0_0.length c0_0):=(blk_cell BK153.out 0).trans rfl;have hcz27_1:w25.cell? ⟨gb153,1,none⟩ = some (.slice A0_1 l0_1.length c0_1):=(blk_cell BK153.out 1).trans rfl;have hcz27_2:w25.cell? ⟨gb153,2,none⟩ = some (.int .i64 a0_2):=(blk_cell BK153.out 2).trans rfl;have hfz27_0:=blk_frozen BK153.out 0;have hfz27_1:=blk_frozen BK153.out 1;have hfz27_2:=blk_frozen BK153.out 2;have hcz28_0:w25.cell? ⟨gb154,0,none⟩ = some (.slice A1_0 l1_0.length c1_0):=(blk_cell BK154.out 0).trans rfl;have hcz28_1:w25.cell? ⟨gb154,1,none⟩ = some (.slice A1_1 l1_1.length c1_1):=(blk_cell BK154.out 1).trans rfl;have hcz28_2:w25.cell? ⟨gb154,2,none⟩ = some (.int .i64 a1_2):=(blk_cell BK154.out 2).trans rfl;have hfz28_0:=blk_frozen BK154.out 0;have hfz28_1:=blk_frozen BK154.out 1;have hfz28_2:=blk_frozen BK154.out 2)|((with_reducible refine gate_callee (f:=43) rfl ?_);refine goesL_ (some 9) rfl rfl Try.func43 (by kernel_rfl) rfl #[.slice A0_0 l0_0.length c0_0, .slice A1_0 l1_0.length c1_0] rfl (by (try simp only [List.map_toArray,List.map_cons,List.map_nil]);first|done|rfl|(simp only [List.length_drop,List.length_take];rfl)) ?_;(with_reducible refine (laws_eqStringS.calls k _ _ l0_0 _ _ l1_0 true _ ?side1 ?side2 ?side3 ?side4 A3.out).mono ?_);(case side1=>repeat (first|exact (Kd.C_below HR0_0.out HB.out)|(with_reducible refine Kd.C_alloc ?_ _)|(with_reducible refine Kd.C_drewN ?_ _)|(with_reducible refine Kd.C_drew ?_)));(case side2=>exact HC0_0.out);(case side3=>repeat (first|exact (Kd.C_below HR1_0.out HB.out)|(with_reducible refine Kd.C_alloc ?_ _)|(with_reducible refine Kd.C_drewN ?_ _)|(with_reducible refine Kd.C_drew ?_)));(case side4=>exact HC1_0.out);rintro e w' ⟨rfl,⟨nd,rfl⟩⟩;refine ⟨_,rfl,?_⟩)|((with_reducible refine gate_callee (f:=44) rfl ?_);refine goesL_ (some 15) rfl rfl Try.func44 (by kernel_rfl) rfl #[.slice A0_1 l0_1.length c0_1, .slice A1_1 l1_1.length c1_1] rfl (by (try simp only [List.map_toArray,List.map_cons,List.map_nil]);first|done|rfl|(simp only [List.length_drop,List.length_take];rfl)) ?_;(with_reducible refine (laws_eqRuleS.calls k _ _ l0_1 _ _ l1_1 false _ ?side1 ?side2 ?side3 ?side4 A5.out).mono ?_);(case side1=>repeat (first|exact (Kd.C_below HR0_1.out (by repeat (first|(with_reducible first|exact HB.out|apply below_alloc|apply pw_below_drewN|apply below_drew1|refine below_set ?_ GE153.out|refine below_set ?_ GE154.out)|exact HB.out)))|(with_reducible refine Kd.C_alloc ?_ _)|(with_reducible refine Kd.C_drewN ?_ _)|(with_reducible refine Kd.C_drew ?_)));(case side2=>exact HC0_1.out);(case side3=>repeat (first|exact (Kd.C_below HR1_1.out (by repeat (first|(with_reducible first|exact HB.out|apply below_alloc|apply pw_below_drewN|apply below_drew1|refine below_set ?_ GE153.out|refine below_set ?_ GE154.out)|exact HB.out)))|(with_reducible refine Kd.C_alloc ?_ _)|(with_reducible refine Kd.C_drewN ?_ _)|(with_reducible refine Kd.C_drew ?_)));(case side4=>exact HC1_1.out);rintro e w29 ⟨rfl,hb⟩;refine ⟨_,rfl,?_⟩;have n0_:=Aside0.mk (blk_below (g:=gb153) (o:=.cells #[.slice A0_0 l0_0.length c0_0, .slice A0_1 l0_1.length c0_1, .int .i64 a0_2] 30 (0,0)) (by (with_reducible repeat (first|refine blk_drewN ?_ _|refine blk_drew ?_|refine blk_alloc ?_ _));exact BK153.out) hb);have n1_:=Aside0.mk (blk_below (g:=gb154) (o:=.cells #[.slice A1_0 l1_0.length c1_0, .slice A1_1 l1_1.length c1_1, .int .i64 a1_2] 30 (0,0)) (by (with_reducible repeat (first|refine blk_drewN ?_ _|refine blk_drew ?_|refine blk_alloc ?_ _));exact BK154.out) hb);have n2_:=Aside0.mk (below_step (by repeat (first|(with_reducible first|exact HB.out|apply below_alloc|apply pw_below_drewN|apply below_drew1|refine below_set ?_ GE153.out|refine below_set ?_ GE154.out)|exact HB.out)) hb);clear BK153;clear BK154;clear HB;have BK153:=n0_;have BK154:=n1_;have HB:=n2_;clear n0_ n1_ n2_;(try clear hb);(try clear hb2);(try clear hk);(try clear hi)))
   go_ret
   exact ⟨by first|rfl|(simp <;> rfl)|(simp [*] <;> rfl),by repeat (first|(with_reducible first|exact HB.out|apply below_alloc|apply pw_below_drewN|apply below_drew1|refine below_set ?_ GE153.out|refine below_set ?_ GE154.out)|exact HB.out)⟩
 ·replace c4:=Bool.eq_false_iff.mpr c4
  subst c4
  have H1:(some false) = some r:=by rw [if_neg (show ¬ (false = true) by decide)] at H;exact H
  clear H
  have H:=H1
  clear H1
  obtain rfl:=Option.some.inj H
  go_enter Try.func24,Try.ntmps24
  go_wp2_with (first|((with_reducible refine gate_dst (N:=2) rfl ?_);refine box_event ?hg (N:=2) ?hd (cs:=#[.slice A0_0 l0_0.length c0_0, .slice A0_1 l0_1.length c0_1, .int .i64 a0_2]) (t:=30) ?hr ?_;(case hd=>rfl);(case hg=>rfl);(case hr=>first|(go_simp;done)|(go_simp;rfl));intro gb153 hg w30 hbox hb;have n0_:=Aside0.mk (below_step (by repeat (first|(with_reducible first|exact HB.out|apply below_alloc|apply pw_below_drewN|apply below_drew1)|exact HB.out)) hb);have n1_:=Aside0.mk (hbox);have n2_:=Aside0.mk ((by rw [hg];exact (below_size (by repeat (first|(with_reducible first|exact HB.out|apply below_alloc|apply pw_below_drewN|apply below_drew1)|exact HB.out))):w.heap.size ≤ gb153));have n3_:=n2_;clear HB;have HB:=n0_;have BK153:=n1_;have GW153:=n2_;have GE153:=n3_;clear n0_ n1_ n2_ n3_;clear hb hbox hg)|((with_reducible refine gate_dst (N:=3) rfl ?_);refine box_event ?hg (N:=3) ?hd (cs:=#[.slice A1_0 l1_0.length c1_0, .slice A1_1 l1_1.length c1_1, .int .i64 a1_2]) (t:=30) ?hr ?_;(case hd=>rfl);(case hg=>rfl);(case hr=>first|(go_simp;done)|(go_simp;rfl));intro gb154 hg w31 hbox hb;have n0_:=Aside0.mk (blk_below (g:=gb153) (o:=.cells #[.slice A0_0 l0_0.length c0_0, .slice A0_1 l0_1.length c0_1, .int .i64 a0_2] 30 (0,0)) (by (with_reducible repeat (first|refine blk_drewN ?_ _|refine blk_drew ?_|refine blk_alloc ?_ _));exact BK153.out) hb);have n1_:=Aside0.mk (below_step (by repeat (first|(with_reducible first|exact HB.out|apply below_alloc|apply pw_below_drewN|apply below_drew1|refine below_set ?_ GE153.out)|exact HB.out)) hb);have n2_:=Aside0.mk (hbox);have n3_:=Aside0.mk ((by rw [hg];exact (below_size (by repeat (first|(with_reducible first|exact HB.out|apply below_alloc|apply pw_below_drewN|apply below_drew1|refine below_set ?_ GE153.out)|exact HB.out))):w.heap.size ≤ gb154));have n4_:=n3_;have n5_:=Aside0.mk ((by rw [hg];exact Nat.ne_of_lt (blk_lt (g:=gb153) (o:=.cells #[.slice A0_0 l0_0.length c0_0, .slice A0_1 l0_1.length c0_1, .int .i64 a0_2] 30 (0,0)) (by (with_reducible repeat (first|refine blk_drewN ?_ _|refine blk_drew ?_|refine blk_alloc ?_ _));exact BK153.out)):gb153 ≠ gb154));have n6_:=Aside0.mk ((by rw [hg];exact Nat.ne_of_gt (blk_lt (g:=gb153) (o:=.cells #[.slice A0_0 l0_0.length c0_0, .slice A0_1 l0_1.length c0_1, .int .i64 a0_2] 30 (0,0)) (by (with_reducible repeat (first|refine blk_drewN ?_ _|refine blk_drew ?_|refine blk_alloc ?_ _));exact BK153.out)):gb154 ≠ gb153));clear BK153;clear HB;have BK153:=n0_;have HB:=n1_;have BK154:=n2_;have GW154:=n3_;have GE154:=n4_;have NB153_154:=n5_;have NB154_153:=n6_;clear n0_ n1_ n2_ n3_ n4_ n5_ n6_;clear hb hbox hg;have hnb32:=NB153_154.out;have hnc32:=NB154_153.out;have hcz33_0:w31.cell? ⟨gb153,0,none⟩ = some (.slice A0_0 l0_0.length c0_0):=(blk_cell BK153.out 0).trans rfl;have hcz33_1:w31.cell? ⟨gb153,1,none⟩ = some (.slice A0_1 l0_1.length c0_1):=(blk_cell BK153.out 1).trans rfl;have hcz33_2:w31.cell? ⟨gb153,2,none⟩ = some (.int .i64 a0_2):=(blk_cell BK153.out 2).trans rfl;have hfz33_0:=blk_frozen BK153.out 0;have hfz33_1:=blk_frozen BK153.out 1;have hfz33_2:=blk_frozen BK153.out 2;have hcz34_0:w31.cell? ⟨gb154,0,none⟩ = some (.slice A1_0 l1_0.length c1_0):=(blk_cell BK154.out 0).trans rfl;have hcz34_1:w31.cell? ⟨gb154,1,none⟩ = some (.slice A1_1 l1_1.length c1_1):=(blk_cell BK154.out 1).trans rfl;have hcz34_2:w31.cell? ⟨gb154,2,none⟩ = some (.int .i64 a1_2):=(blk_cell BK154.out 2).trans rfl;have hfz34_0:=blk_frozen BK154.out 0;have hfz34_1:=blk_frozen BK154.out 1;have hfz34_2:=blk_frozen BK154.out 2)|((with_reducible refine gate_callee (f:=43) rfl ?_);refine goesL_ (some 9) rfl rfl Try.func43 (by kernel_rfl) rfl #[.slice A0_0 l0_0.length c0_0, .slice A1_0 l1_0.length c1_0] rfl (by (try simp only [List.map_toArray,List.map_cons,List.map_nil]);first|done|rfl|(simp only [List.length_drop,List.length_take];rfl)) ?_;(with_reducible refine (laws_eqStringS.calls k _ _ l0_0 _ _ l1_0 false _ ?side1 ?side2 ?side3 ?side4 A3.out).mono ?_);(case side1=>repeat (first|exact (Kd.C_below HR0_0.out HB.out)|(with_reducible refine Kd.C_alloc ?_ _)|(with_reducible refine Kd.C_drewN ?_ _)|(with_reducible refine Kd.C_drew ?_)));(case side2=>exact HC0_0.out);(case side3=>repeat (first|exact (Kd.C_below HR1_0.out HB.out)|(with_reducible refine Kd.C_alloc ?_ _)|(with_reducible refine Kd.C_drewN ?_ _)|(with_reducible refine Kd.C_drew ?_)));(case side4=>exact HC1_0.out);rintro e w' ⟨rfl,⟨nd,rfl⟩⟩;refine ⟨_,rfl,?_⟩))
  go_ret
  exact ⟨by first|rfl|(simp <;> rfl)|(simp [*] <;> rfl),by repeat (first|(with_reducible first|exact HB.out|apply below_alloc|apply pw_below_drewN|apply below_drew1|refine below_set ?_ GE153.out|refine below_set ?_ GE154.out)|exact HB.out)⟩

/-! ### laws_eqGroupS: function 23 -/
def laws_eqGroupS.l0:Nat → List (S30) → List (S30) → Int → Option (Bool)
 | 0,_,_,_=>none
 | k + 1,x0,x1,x5=>if x5 < (x0.length:Int) then (if 0 ≤ x5 then (if x5 < (x1.length:Int) then ((laws_eqGroup.f k ((rd_T30 x0 x5).f0) ((rd_T30 x0 x5).f1) ((rd_T30 x0 x5).f2) ((rd_T30 x1 x5).f0) ((rd_T30 x1 x5).f1) ((rd_T30 x1 x5).f2)).bind fun t159=>(if t159 = true then (laws_eqGroupS.l0 k x0 x1 (wrap64 (x5 + 1))) else (some false))) else (none)) else (none)) else (some true)
def laws_eqGroupS.f (k:Nat) (l0:List (S30)) (l1:List (S30)):Option (Bool):=if (l0.length:Int) = (l1.length:Int) then (laws_eqGroupS.l0 k l0 l1 0) else (some false)
theorem laws_eqGroupS.mono_l:∀ k,(∀ y0 y1 y2,LeO (laws_eqGroupS.l0 k y0 y1 y2) (laws_eqGroupS.l0 (k + 1) y0 y1 y2))
 | 0=>fun _ _ _ r h=>by simp [laws_eqGroupS.l0] at h
 | k + 1=>by
  have ih0:=laws_eqGroupS.mono_l k
  ·intro y0 y1 y2
   unfold laws_eqGroupS.l0
   repeat' first
   | (with_reducible exact ih0 _ _ _)
   | (with_reducible exact laws_eqGroup.mono _ _ _ _ _ _ _)
   | (with_reducible exact LeO.refl _)
   | (with_reducible exact LeO.none _)
   | (with_reducible refine LeO.ite ?_ ?_)
   | (with_reducible refine LeO.bind ?_ (fun _=>?_))
   | exact ih0 _ _ _
   | exact laws_eqGroup.mono _ _ _ _ _ _ _
   | exact LeO.none _
   | refine LeO.ite ?_ ?_
   | refine LeO.bind ?_ (fun _=>?_)
theorem laws_eqGroupS.mono:∀ a0 a1 k,LeO (laws_eqGroupS.f k a0 a1) (laws_eqGroupS.f (k + 1) a0 a1):=by
 intro a0 a1 k
 have ih0:=laws_eqGroupS.mono_l k
 unfold laws_eqGroupS.f
 repeat' first
   | (with_reducible exact ih0 _ _ _)
   | (with_reducible exact laws_eqGroup.mono _ _ _ _ _ _ _)
   | (with_reducible exact LeO.refl _)
   | (with_reducible exact LeO.none _)
   | (with_reducible refine LeO.ite ?_ ?_)
   | (with_reducible refine LeO.bind ?_ (fun _=>?_))
   | exact ih0 _ _ _
   | exact laws_eqGroup.mono _ _ _ _ _ _ _
   | exact LeO.none _
   | refine LeO.ite ?_ ?_
   | refine LeO.bind ?_ (fun _=>?_)
def laws_eqGroupS.T6:Bool × List (List Nat × List Nat):=(true,[([],[]),([],[]),([0,1],[0,1]),([2],[2]),([],[]),([],[]),([4,5],[4,5]),([6],[6]),([3,7],[3,7]),([8],[8])])
def laws_eqGroupS.B6:List Nat:=[0,0,3,7,0,0,48,112,255,511]
theorem laws_eqGroupS.tab6:rtab .any (opsOf Try.f23 6) = laws_eqGroupS.T6:=by kernel_rfl
theorem laws_eqGroupS.bits6:waitsOk laws_eqGroupS.T6.2 laws_eqGroupS.B6 = true:=by kernel_rfl
theorem laws_eqGroupS.calls (k:Nat) (A0:Option Addr) (c0:Nat) (l0:List (S30)) (A1:Option Addr) (c1:Nat) (l1:List (S30)) (r:Bool) (w:World) (hr0:Kd.C k30 w A0 l0.length l0) (hc0:l0.length ≤ c0) (hr1:Kd.C k30 w A1 l1.length l1) (hc1:l1.length ≤ c1) (h:laws_eqGroupS.f k l0 l1 = some r) :
  Calls Try.prog 23 #[.slice A0 l0.length c0, .slice A1 l1.length c1] w fun e w'=>e = .returned (.bool r) ∧ Below w.heap.size w w':=by
 have hu30:=Try.underlying30
 have HR0:=Aside0.mk hr0
 have HC0:=Aside0.mk hc0
 clear hr0 hc0
 have HR1:=Aside0.mk hr1
 have HC1:=Aside0.mk hc1
 clear hr1 hc1
 have HB:=Aside0.mk (Below.refl w.heap.size w)
 have H:(if (l0.length:Int) = (l1.length:Int) then (laws_eqGroupS.l0 k l0 l1 0) else (some false)) = some r:=h
 clear h
 by_cases c3:(l0.length:Int) = (l1.length:Int)
 ·rw [if_pos c3] at H
  have c3b0:((l0.length:Int) == (l1.length:Int)) = true:=beq_iff_eq.mpr c3
  have c3b1:((l0.length:Int) != (l1.length:Int)) = false:=bne_eq_false_iff_eq.mpr c3
  have c3b2:(l0.length == l1.length) = true:=by first|simpa using c3|(simp at c3 ⊢;omega)
  clear c3
  have H':=Aside0.mk H
  clear H
  go_enter Try.func23,Try.ntmps23
  go_wp2
  go_loopg [5] k (fun kq v5 w'=>∃ (x5_1:Int),v5 = .int .i64 x5_1 ∧ Aside0 (laws_eqGroupS.l0 kq l0 l1 x5_1 = some r) ∧ Aside0 (kq ≤ k) ∧ Aside0 (Below w.heap.size w w'))
  case atStart=>exact ⟨(0),(by first|rfl|(simp;done)|(simp only [i64_w,i32_w];done)|(simp only [i64_w,i32_w];rfl)|(simp [*];done)|(simp [emp_bne,emp_beq];done)),H',⟨Nat.le_refl _⟩,⟨by repeat (first|(with_reducible first|exact HB.out|apply below_alloc|apply pw_below_drewN|apply below_drew1)|exact HB.out)⟩⟩
  case round =>
   clear H'
   try clear c1
   try clear c2
   try clear p2
   try clear c3
   try clear c3b0
   try clear c3b1
   try clear c3b2
   obtain ⟨x5_1,rfl,HA,HK1,HB⟩:=hrel
   cases gk with
   | zero=>exact absurd HA.out (by simp [laws_eqGroupS.l0])
   | succ k1 =>
    have H:=HA.out
    clear HA
    simp only [laws_eqGroupS.l0] at H
    by_cases c4:x5_1 < (l0.length:Int)
    ·rw [if_pos c4] at H
     have c4b0:decide (x5_1 < (l0.length:Int)) = true:=decide_eq_true c4
     clear c4
     by_cases c5:0 ≤ x5_1
     ·rw [if_pos c5] at H
      have c5b0:decide (0 ≤ x5_1) = true:=decide_eq_true c5
      clear c5
      by_cases c6:x5_1 < (l1.length:Int)
      ·rw [if_pos c6] at H
       have c6b0:decide (x5_1 < (l1.length:Int)) = true:=decide_eq_true c6
       clear c6
       replace H:=Option.bind_eq_some_iff.mp H
       obtain ⟨t159,A70,H⟩:=H
       replace H:(if t159 = true then (laws_eqGroupS.l0 k1 l0 l1 (wrap64 (x5_1 + 1))) else (some false)) = some r:=H
       have A7:=Aside0.mk A70
       clear A70
       by_cases c8:t159 = true
       ·subst c8
        have H1:(laws_eqGroupS.l0 k1 l0 l1 (wrap64 (x5_1 + 1))) = some r:=by rw [if_pos rfl] at H;exact H
        clear H
        have H:=H1
        clear H1
        have H':=Aside0.mk H
        clear H
        try go_wp2
        have n0_:=Aside0.mk (below_drew1 HB.out)
        clear HB
        have HB:=n0_
        clear n0_
        have p157:0 ≤ (x5_1:Int):=of_decide_eq_true (by first|(with_reducible assumption)|assumption)
        have q157:x5_1 < (l0.length:Int):=of_decide_eq_true (by first|(with_reducible assumption)|assumption)
        obtain ⟨ad157,A157_0,c157_0,A157_1,c157_1,e157,hx157_0,hx157_1,hx157_2,hl157_0,hi157_0,hl157_1,hi157_1⟩:=at_T30 HR0.out x5_1 p157 q157
        have hw157_2:=hx157_2
        have hw157_1:=hx157_1
        have hw157_0:=hx157_0
        cases e157
        replace hx157_0:=(HB.out.cell (World.block_lt_of_cell? w _ hx157_0)).trans hx157_0
        replace hx157_1:=(HB.out.cell (World.block_lt_of_cell? w _ hx157_1)).trans hx157_1
        replace hx157_2:=(HB.out.cell (World.block_lt_of_cell? w _ hx157_2)).trans hx157_2
        have HR157_0:=Aside0.mk hi157_0
        have HC157_0:=Aside0.mk hl157_0
        clear hi157_0 hl157_0
        have HR157_1:=Aside0.mk hi157_1
        have HC157_1:=Aside0.mk hl157_1
        clear hi157_1 hl157_1
        replace p157:=eq_true p157
        replace q157:=eq_true q157
        have p158:0 ≤ (x5_1:Int):=of_decide_eq_true (by first|(with_reducible assumption)|assumption)
        have q158:x5_1 < (l1.length:Int):=of_decide_eq_true (by first|(with_reducible assumption)|assumption)
        obtain ⟨ad158,A158_0,c158_0,A158_1,c158_1,e158,hx158_0,hx158_1,hx158_2,hl158_0,hi158_0,hl158_1,hi158_1⟩:=at_T30 HR1.out x5_1 p158 q158
        have hw158_2:=hx158_2
        have hw158_1:=hx158_1
        have hw158_0:=hx158_0
        cases e158
        replace hx158_0:=(HB.out.cell (World.block_lt_of_cell? w _ hx158_0)).trans hx158_0
        replace hx158_1:=(HB.out.cell (World.block_lt_of_cell? w _ hx158_1)).trans hx158_1
        replace hx158_2:=(HB.out.cell (World.block_lt_of_cell? w _ hx158_2)).trans hx158_2
        have HR158_0:=Aside0.mk hi158_0
        have HC158_0:=Aside0.mk hl158_0
        clear hi158_0 hl158_0
        have HR158_1:=Aside0.mk hi158_1
        have HC158_1:=Aside0.mk hl158_1
        clear hi158_1 hl158_1
        replace p158:=eq_true p158
        replace q158:=eq_true q158
        refine start_ (n:=10) (S:=fun w'=>w'.cell? (ad157.add ((x5_1).toNat * 3)) = some (.slice A157_0 ((rd_T30 l0 x5_1).f0).length c157_0) ∧ w'.cell? ⟨(ad157.add ((x5_1).toNat * 3)).block,(ad157.add ((x5_1).toNat * 3)).off + 1,none⟩ = some (.slice A157_1 ((rd_T30 l0 x5_1).f1).length c157_1) ∧ w'.cell? ⟨(ad157.add ((x5_1).toNat * 3)).block,(ad157.add ((x5_1).toNat * 3)).off + 2,none⟩ = some (.int .i64 ((rd_T30 l0 x5_1).f2)) ∧ w'.cell? (ad158.add ((x5_1).toNat * 3)) = some (.slice A158_0 ((rd_T30 l1 x5_1).f0).length c158_0) ∧ w'.cell? ⟨(ad158.add ((x5_1).toNat * 3)).block,(ad158.add ((x5_1).toNat * 3)).off + 1,none⟩ = some (.slice A158_1 ((rd_T30 l1 x5_1).f1).length c158_1) ∧ w'.cell? ⟨(ad158.add ((x5_1).toNat * 3)).block,(ad158.add ((x5_1).toNat * 3)).off + 2,none⟩ = some (.int .i64 ((rd_T30 l1 x5_1).f2))) (ds:=[]) #[false,false,false,false,false,false,false,false,false,false] (by kernel_rfl) rfl rfl ⟨((HB.out.cell (World.block_lt_of_cell? w _ hw157_0)).trans hw157_0),((HB.out.cell (World.block_lt_of_cell? w _ hw157_1)).trans hw157_1),((HB.out.cell (World.block_lt_of_cell? w _ hw157_2)).trans hw157_2),((HB.out.cell (World.block_lt_of_cell? w _ hw158_0)).trans hw158_0),((HB.out.cell (World.block_lt_of_cell? w _ hw158_1)).trans hw158_1),((HB.out.cell (World.block_lt_of_cell? w _ hw158_2)).trans hw158_2)⟩ (fun hHeld=>?_);refine with_tabW laws_eqGroupS.tab6 laws_eqGroupS.bits6 (fun HT_ HW_=>?_)
        generalize wr.drew = w9 at HB HR157_0 HR157_1 HR158_0 HR158_1 hx157_0 hx157_1 hx157_2 hx158_0 hx158_1 hx158_2 hHeld ⊢
        refine pure_ (i:=0) (N:=some 17) (v:=?_) (a':=?_) #[true,false,false,false,false,false,false,false,false,false] rfl rfl (any_of HT_.out (by kernel_rfl)) (fun _ _ _ h=>h) (Or.inl ⟨by rfl,?_⟩) ?_ ?_
        rotate_left
        ·intro w'
         go_simp
         with_reducible rfl
        rotate_left
        ·simp only [Act.put,List.setIfInBounds_toArray,List.set_cons_zero,List.set_cons_succ,i64_w,i32_w]
         rfl
        refine pure_ (i:=1) (N:=some 18) (v:=?_) (a':=?_) #[true,true,false,false,false,false,false,false,false,false] rfl rfl (any_of HT_.out (by kernel_rfl)) (fun _ _ _ h=>h) (Or.inl ⟨by rfl,?_⟩) ?_ ?_
        rotate_left
        ·intro w'
         go_simp
         with_reducible rfl
        rotate_left
        ·simp only [Act.put,List.setIfInBounds_toArray,List.set_cons_zero,List.set_cons_succ,i64_w,i32_w]
         rfl
        refine pure_ (i:=2) (N:=some 19) (v:=?_) (a':=?_) #[true,true,true,false,false,false,false,false,false,false] rfl rfl (any_of HT_.out (by kernel_rfl)) (fun _ _ _ h=>h) (Or.inl ⟨by rfl,?_⟩) ?_ ?_
        rotate_left
        ·intro w'
         go_simp
         with_reducible rfl
        rotate_left
        ·simp only [Act.put,List.setIfInBounds_toArray,List.set_cons_zero,List.set_cons_succ,i64_w,i32_w]
         rfl
        refine pure_ (i:=4) (N:=some 21) (v:=?_) (a':=?_) #[true,true,true,false,true,false,false,false,false,false] rfl rfl (any_of HT_.out (by kernel_rfl)) (fun _ _ _ h=>h) (Or.inl ⟨by rfl,?_⟩) ?_ ?_
        rotate_left
        ·intro w'
         go_simp
         with_reducible rfl
        rotate_left
        ·simp only [Act.put,List.setIfInBounds_toArray,List.set_cons_zero,List.set_cons_succ,i64_w,i32_w]
         rfl
        refine pure_ (i:=5) (N:=some 22) (v:=?_) (a':=?_) #[true,true,true,false,true,true,false,false,false,false] rfl rfl (any_of HT_.out (by kernel_rfl)) (fun _ _ _ h=>h) (Or.inl ⟨by rfl,?_⟩) ?_ ?_
        rotate_left
        ·intro w'
         go_simp
         with_reducible rfl
        rotate_left
        ·simp only [Act.put,List.setIfInBounds_toArray,List.set_cons_zero,List.set_cons_succ,i64_w,i32_w]
         rfl
        refine pure_ (i:=6) (N:=some 23) (v:=?_) (a':=?_) #[true,true,true,false,true,true,true,false,false,false] rfl rfl (any_of HT_.out (by kernel_rfl)) (fun _ _ _ h=>h) (Or.inl ⟨by rfl,?_⟩) ?_ ?_
        rotate_left
        ·intro w'
         go_simp
         with_reducible rfl
        rotate_left
        ·simp only [Act.put,List.setIfInBounds_toArray,List.set_cons_zero,List.set_cons_succ,i64_w,i32_w]
         rfl
        refine take_ (i:=3) (N:=some 20) (v:=?_) (a':=?_) #[true,true,true,true,true,true,true,false,false,false] rfl rfl (take_ofW HT_.out HW_.out (by kernel_rfl)) (fun _ _ _ h=>h) (Or.inl ⟨by rfl,?_⟩) hHeld ?_ ?_
        rotate_left
        ·rintro w' ⟨s0,s1,s2,s3,s4,s5⟩
         go_simp
         with_reducible rfl
        rotate_left
        ·simp only [Act.put,List.setIfInBounds_toArray,List.set_cons_zero,List.set_cons_succ,i64_w,i32_w]
         rfl
        refine take_ (i:=7) (N:=some 24) (v:=?_) (a':=?_) #[true,true,true,true,true,true,true,true,false,false] rfl rfl (take_ofW HT_.out HW_.out (by kernel_rfl)) (fun _ _ _ h=>h) (Or.inl ⟨by rfl,?_⟩) hHeld ?_ ?_
        rotate_left
        ·rintro w' ⟨s0,s1,s2,s3,s4,s5⟩
         go_simp
         with_reducible rfl
        rotate_left
        ·simp only [Act.put,List.setIfInBounds_toArray,List.set_cons_zero,List.set_cons_succ,i64_w,i32_w]
         rfl
        refine one_ (i:=8) (N:=some 25) #[true,true,true,true,true,true,true,true,true,false] rfl rfl (one_of HT_.out (by kernel_rfl)) (by decide) (fun K hK=>?_)
        refine goes_ Try.func24 (by kernel_rfl) rfl #[.agg #[.slice A157_0 ((rd_T30 l0 x5_1).f0).length c157_0, .slice A157_1 ((rd_T30 l0 x5_1).f1).length c157_1, .int .i64 ((rd_T30 l0 x5_1).f2)], .agg #[.slice A158_0 ((rd_T30 l1 x5_1).f0).length c158_0, .slice A158_1 ((rd_T30 l1 x5_1).f1).length c158_1, .int .i64 ((rd_T30 l1 x5_1).f2)]] (by rfl) rfl rfl (by (try simp only [List.map_toArray,List.map_cons,List.map_nil]);first|done|rfl|(simp only [List.length_drop,List.length_take];rfl)) ?_
        with_reducible refine (laws_eqGroup.calls k1 _ _ ((rd_T30 l0 x5_1).f0) _ _ ((rd_T30 l0 x5_1).f1) ((rd_T30 l0 x5_1).f2) _ _ ((rd_T30 l1 x5_1).f0) _ _ ((rd_T30 l1 x5_1).f1) ((rd_T30 l1 x5_1).f2) true _ ?side1 ?side2 ?side3 ?side4 ?side5 ?side6 ?side7 ?side8 A7.out).mono ?_
        (case side1=>repeat (first|exact (Kd.C_below HR157_0.out HB.out)|(with_reducible refine Kd.C_alloc ?_ _)|(with_reducible refine Kd.C_drewN ?_ _)|(with_reducible refine Kd.C_drew ?_)))
        (case side2=>exact HC157_0.out)
        (case side3=>repeat (first|exact (Kd.C_below HR157_1.out HB.out)|(with_reducible refine Kd.C_alloc ?_ _)|(with_reducible refine Kd.C_drewN ?_ _)|(with_reducible refine Kd.C_drew ?_)))
        (case side4=>exact HC157_1.out)
        (case side5=>repeat (first|exact (Kd.C_below HR158_0.out HB.out)|(with_reducible refine Kd.C_alloc ?_ _)|(with_reducible refine Kd.C_drewN ?_ _)|(with_reducible refine Kd.C_drew ?_)))
        (case side6=>exact HC158_0.out)
        (case side7=>repeat (first|exact (Kd.C_below HR158_1.out HB.out)|(with_reducible refine Kd.C_alloc ?_ _)|(with_reducible refine Kd.C_drewN ?_ _)|(with_reducible refine Kd.C_drew ?_)))
        (case side8=>exact HC158_1.out)
        rintro e w10 ⟨rfl,hb⟩
        refine ⟨_,rfl,?_⟩
        have n0_:=Aside0.mk (below_step (by repeat (first|(with_reducible first|exact HB.out|apply below_alloc|apply pw_below_drewN|apply below_drew1)|exact HB.out)) hb)
        clear HB
        have HB:=n0_
        clear n0_
        (try clear hb)
        (try clear hb2)
        (try clear hk)
        (try clear hi)
        refine hK.out _ _ ⟨((HB.out.cell (World.block_lt_of_cell? w _ hw157_0)).trans hw157_0),((HB.out.cell (World.block_lt_of_cell? w _ hw157_1)).trans hw157_1),((HB.out.cell (World.block_lt_of_cell? w _ hw157_2)).trans hw157_2),((HB.out.cell (World.block_lt_of_cell? w _ hw158_0)).trans hw158_0),((HB.out.cell (World.block_lt_of_cell? w _ hw158_1)).trans hw158_1),((HB.out.cell (World.block_lt_of_cell? w _ hw158_2)).trans hw158_2)⟩ (fun hHeld=>?_)
        clear hK K
        refine norm_ (a':=?_) ?_ ?_
        rotate_left
        ·show Act.put _ (some 25) _ = _
         simp only [Act.put,List.setIfInBounds_toArray,List.set_cons_zero,List.set_cons_succ,i64_w,i32_w]
         rfl
        refine pure_ (i:=9) (N:=some 26) (v:=?_) (a':=?_) #[true,true,true,true,true,true,true,true,true,true] rfl rfl (any_of HT_.out (by kernel_rfl)) (fun _ _ _ h=>h) (Or.inl ⟨by rfl,?_⟩) ?_ ?_
        rotate_left
        ·intro w'
         go_simp
         with_reducible rfl
        rotate_left
        ·simp only [Act.put,List.setIfInBounds_toArray,List.set_cons_zero,List.set_cons_succ,i64_w,i32_w]
         rfl
        refine done_ (done_of HT_.out (by kernel_rfl)) ?_
        try go_wp2
        go_roundg k1
        case measure=>have:=HK1.out;omega
        case rel=>exact ⟨(wrap64 (x5_1 + 1)),(by first|rfl|(simp;done)|(simp only [i64_w,i32_w];done)|(simp only [i64_w,i32_w];rfl)|(simp [*];done)|(simp [emp_bne,emp_beq];done)),H',⟨by have:=HK1.out;omega⟩,⟨by repeat (first|(with_reducible first|exact HB.out|apply below_alloc|apply pw_below_drewN|apply below_drew1)|exact HB.out)⟩⟩
       ·replace c8:=Bool.eq_false_iff.mpr c8
        subst c8
        have H1:(some false) = some r:=by rw [if_neg (show ¬ (false = true) by decide)] at H;exact H
        clear H
        have H:=H1
        clear H1
        obtain rfl:=Option.some.inj H
        try go_wp2
        have n0_:=Aside0.mk (below_drew1 HB.out)
        clear HB
        have HB:=n0_
        clear n0_
        have p157:0 ≤ (x5_1:Int):=of_decide_eq_true (by first|(with_reducible assumption)|assumption)
        have q157:x5_1 < (l0.length:Int):=of_decide_eq_true (by first|(with_reducible assumption)|assumption)
        obtain ⟨ad157,A157_0,c157_0,A157_1,c157_1,e157,hx157_0,hx157_1,hx157_2,hl157_0,hi157_0,hl157_1,hi157_1⟩:=at_T30 HR0.out x5_1 p157 q157
        have hw157_2:=hx157_2
        have hw157_1:=hx157_1
        have hw157_0:=hx157_0
        cases e157
        replace hx157_0:=(HB.out.cell (World.block_lt_of_cell? w _ hx157_0)).trans hx157_0
        replace hx157_1:=(HB.out.cell (World.block_lt_of_cell? w _ hx157_1)).trans hx157_1
        replace hx157_2:=(HB.out.cell (World.block_lt_of_cell? w _ hx157_2)).trans hx157_2
        have HR157_0:=Aside0.mk hi157_0
        have HC157_0:=Aside0.mk hl157_0
        clear hi157_0 hl157_0
        have HR157_1:=Aside0.mk hi157_1
        have HC157_1:=Aside0.mk hl157_1
        clear hi157_1 hl157_1
        replace p157:=eq_true p157
        replace q157:=eq_true q157
        have p158:0 ≤ (x5_1:Int):=of_decide_eq_true (by first|(with_reducible assumption)|assumption)
        have q158:x5_1 < (l1.length:Int):=of_decide_eq_true (by first|(with_reducible assumption)|assumption)
        obtain ⟨ad158,A158_0,c158_0,A158_1,c158_1,e158,hx158_0,hx158_1,hx158_2,hl158_0,hi158_0,hl158_1,hi158_1⟩:=at_T30 HR1.out x5_1 p158 q158
        have hw158_2:=hx158_2
        have hw158_1:=hx158_1
        have hw158_0:=hx158_0
        cases e158
        replace hx158_0:=(HB.out.cell (World.block_lt_of_cell? w _ hx158_0)).trans hx158_0
        replace hx158_1:=(HB.out.cell (World.block_lt_of_cell? w _ hx158_1)).trans hx158_1
        replace hx158_2:=(HB.out.cell (World.block_lt_of_cell? w _ hx158_2)).trans hx158_2
        have HR158_0:=Aside0.mk hi158_0
        have HC158_0:=Aside0.mk hl158_0
        clear hi158_0 hl158_0
        have HR158_1:=Aside0.mk hi158_1
        have HC158_1:=Aside0.mk hl158_1
        clear hi158_1 hl158_1
        replace p158:=eq_true p158
        replace q158:=eq_true q158
        refine start_ (n:=10) (S:=fun w'=>w'.cell? (ad157.add ((x5_1).toNat * 3)) = some (.slice A157_0 ((rd_T30 l0 x5_1).f0).length c157_0) ∧ w'.cell? ⟨(ad157.add ((x5_1).toNat * 3)).block,(ad157.add ((x5_1).toNat * 3)).off + 1,none⟩ = some (.slice A157_1 ((rd_T30 l0 x5_1).f1).length c157_1) ∧ w'.cell? ⟨(ad157.add ((x5_1).toNat * 3)).block,(ad157.add ((x5_1).toNat * 3)).off + 2,none⟩ = some (.int .i64 ((rd_T30 l0 x5_1).f2)) ∧ w'.cell? (ad158.add ((x5_1).toNat * 3)) = some (.slice A158_0 ((rd_T30 l1 x5_1).f0).length c158_0) ∧ w'.cell? ⟨(ad158.add ((x5_1).toNat * 3)).block,(ad158.add ((x5_1).toNat * 3)).off + 1,none⟩ = some (.slice A158_1 ((rd_T30 l1 x5_1).f1).length c158_1) ∧ w'.cell? ⟨(ad158.add ((x5_1).toNat * 3)).block,(ad158.add ((x5_1).toNat * 3)).off + 2,none⟩ = some (.int .i64 ((rd_T30 l1 x5_1).f2))) (ds:=[]) #[false,false,false,false,false,false,false,false,false,false] (by kernel_rfl) rfl rfl ⟨((HB.out.cell (World.block_lt_of_cell? w _ hw157_0)).trans hw157_0),((HB.out.cell (World.block_lt_of_cell? w _ hw157_1)).trans hw157_1),((HB.out.cell (World.block_lt_of_cell? w _ hw157_2)).trans hw157_2),((HB.out.cell (World.block_lt_of_cell? w _ hw158_0)).trans hw158_0),((HB.out.cell (World.block_lt_of_cell? w _ hw158_1)).trans hw158_1),((HB.out.cell (World.block_lt_of_cell? w _ hw158_2)).trans hw158_2)⟩ (fun hHeld=>?_);refine with_tabW laws_eqGroupS.tab6 laws_eqGroupS.bits6 (fun HT_ HW_=>?_)
        generalize wr.drew = w11 at HB HR157_0 HR157_1 HR158_0 HR158_1 hx157_0 hx157_1 hx157_2 hx158_0 hx158_1 hx158_2 hHeld ⊢
        refine pure_ (i:=0) (N:=some 17) (v:=?_) (a':=?_) #[true,false,false,false,false,false,false,false,false,false] rfl rfl (any_of HT_.out (by kernel_rfl)) (fun _ _ _ h=>h) (Or.inl ⟨by rfl,?_⟩) ?_ ?_
        rotate_left
        ·intro w'
         go_simp
         with_reducible rfl
        rotate_left
        ·simp only [Act.put,List.setIfInBounds_toArray,List.set_cons_zero,List.set_cons_succ,i64_w,i32_w]
         rfl
        refine pure_ (i:=1) (N:=some 18) (v:=?_) (a':=?_) #[true,true,false,false,false,false,false,false,false,false] rfl rfl (any_of HT_.out (by kernel_rfl)) (fun _ _ _ h=>h) (Or.inl ⟨by rfl,?_⟩) ?_ ?_
        rotate_left
        ·intro w'
         go_simp
         with_reducible rfl
        rotate_left
        ·simp only [Act.put,List.setIfInBounds_toArray,List.set_cons_zero,List.set_cons_succ,i64_w,i32_w]
         rfl
        refine pure_ (i:=2) (N:=some 19) (v:=?_) (a':=?_) #[true,true,true,false,false,false,false,false,false,false] rfl rfl (any_of HT_.out (by kernel_rfl)) (fun _ _ _ h=>h) (Or.inl ⟨by rfl,?_⟩) ?_ ?_
        rotate_left
        ·intro w'
         go_simp
         with_reducible rfl
        rotate_left
        ·simp only [Act.put,List.setIfInBounds_toArray,List.set_cons_zero,List.set_cons_succ,i64_w,i32_w]
         rfl
        refine pure_ (i:=4) (N:=some 21) (v:=?_) (a':=?_) #[true,true,true,false,true,false,false,false,false,false] rfl rfl (any_of HT_.out (by kernel_rfl)) (fun _ _ _ h=>h) (Or.inl ⟨by rfl,?_⟩) ?_ ?_
        rotate_left
        ·intro w'
         go_simp
         with_reducible rfl
        rotate_left
        ·simp only [Act.put,List.setIfInBounds_toArray,List.set_cons_zero,List.set_cons_succ,i64_w,i32_w]
         rfl
        refine pure_ (i:=5) (N:=some 22) (v:=?_) (a':=?_) #[true,true,true,false,true,true,false,false,false,false] rfl rfl (any_of HT_.out (by kernel_rfl)) (fun _ _ _ h=>h) (Or.inl ⟨by rfl,?_⟩) ?_ ?_
        rotate_left
        ·intro w'
         go_simp
         with_reducible rfl
        rotate_left
        ·simp only [Act.put,List.setIfInBounds_toArray,List.set_cons_zero,List.set_cons_succ,i64_w,i32_w]
         rfl
        refine pure_ (i:=6) (N:=some 23) (v:=?_) (a':=?_) #[true,true,true,false,true,true,true,false,false,false] rfl rfl (any_of HT_.out (by kernel_rfl)) (fun _ _ _ h=>h) (Or.inl ⟨by rfl,?_⟩) ?_ ?_
        rotate_left
        ·intro w'
         go_simp
         with_reducible rfl
        rotate_left
        ·simp only [Act.put,List.setIfInBounds_toArray,List.set_cons_zero,List.set_cons_succ,i64_w,i32_w]
         rfl
        refine take_ (i:=3) (N:=some 20) (v:=?_) (a':=?_) #[true,true,true,true,true,true,true,false,false,false] rfl rfl (take_ofW HT_.out HW_.out (by kernel_rfl)) (fun _ _ _ h=>h) (Or.inl ⟨by rfl,?_⟩) hHeld ?_ ?_
        rotate_left
        ·rintro w' ⟨s0,s1,s2,s3,s4,s5⟩
         go_simp
         with_reducible rfl
        rotate_left
        ·simp only [Act.put,List.setIfInBounds_toArray,List.set_cons_zero,List.set_cons_succ,i64_w,i32_w]
         rfl
        refine take_ (i:=7) (N:=some 24) (v:=?_) (a':=?_) #[true,true,true,true,true,true,true,true,false,false] rfl rfl (take_ofW HT_.out HW_.out (by kernel_rfl)) (fun _ _ _ h=>h) (Or.inl ⟨by rfl,?_⟩) hHeld ?_ ?_
        rotate_left
        ·rintro w' ⟨s0,s1,s2,s3,s4,s5⟩
         go_simp
         with_reducible rfl
        rotate_left
        ·simp only [Act.put,List.setIfInBounds_toArray,List.set_cons_zero,List.set_cons_succ,i64_w,i32_w]
         rfl
        refine one_ (i:=8) (N:=some 25) #[true,true,true,true,true,true,true,true,true,false] rfl rfl (one_of HT_.out (by kernel_rfl)) (by decide) (fun K hK=>?_)
        refine goes_ Try.func24 (by kernel_rfl) rfl #[.agg #[.slice A157_0 ((rd_T30 l0 x5_1).f0).length c157_0, .slice A157_1 ((rd_T30 l0 x5_1).f1).length c157_1, .int .i64 ((rd_T30 l0 x5_1).f2)], .agg #[.slice A158_0 ((rd_T30 l1 x5_1).f0).length c158_0, .slice A158_1 ((rd_T30 l1 x5_1).f1).length c158_1, .int .i64 ((rd_T30 l1 x5_1).f2)]] (by rfl) rfl rfl (by (try simp only [List.map_toArray,List.map_cons,List.map_nil]);first|done|rfl|(simp only [List.length_drop,List.length_take];rfl)) ?_
        with_reducible refine (laws_eqGroup.calls k1 _ _ ((rd_T30 l0 x5_1).f0) _ _ ((rd_T30 l0 x5_1).f1) ((rd_T30 l0 x5_1).f2) _ _ ((rd_T30 l1 x5_1).f0) _ _ ((rd_T30 l1 x5_1).f1) ((rd_T30 l1 x5_1).f2) false _ ?side1 ?side2 ?side3 ?side4 ?side5 ?side6 ?side7 ?side8 A7.out).mono ?_
        (case side1=>repeat (first|exact (Kd.C_below HR157_0.out HB.out)|(with_reducible refine Kd.C_alloc ?_ _)|(with_reducible refine Kd.C_drewN ?_ _)|(with_reducible refine Kd.C_drew ?_)))
        (case side2=>exact HC157_0.out)
        (case side3=>repeat (first|exact (Kd.C_below HR157_1.out HB.out)|(with_reducible refine Kd.C_alloc ?_ _)|(with_reducible refine Kd.C_drewN ?_ _)|(with_reducible refine Kd.C_drew ?_)))
        (case side4=>exact HC157_1.out)
        (case side5=>repeat (first|exact (Kd.C_below HR158_0.out HB.out)|(with_reducible refine Kd.C_alloc ?_ _)|(with_reducible refine Kd.C_drewN ?_ _)|(with_reducible refine Kd.C_drew ?_)))
        (case side6=>exact HC158_0.out)
        (case side7=>repeat (first|exact (Kd.C_below HR158_1.out HB.out)|(with_reducible refine Kd.C_alloc ?_ _)|(with_reducible refine Kd.C_drewN ?_ _)|(with_reducible refine Kd.C_drew ?_)))
        (case side8=>exact HC158_1.out)
        rintro e w12 ⟨rfl,hb⟩
        refine ⟨_,rfl,?_⟩
        have n0_:=Aside0.mk (below_step (by repeat (first|(with_reducible first|exact HB.out|apply below_alloc|apply pw_below_drewN|apply below_drew1)|exact HB.out)) hb)
        clear HB
        have HB:=n0_
        clear n0_
        (try clear hb)
        (try clear hb2)
        (try clear hk)
        (try clear hi)
        refine hK.out _ _ ⟨((HB.out.cell (World.block_lt_of_cell? w _ hw157_0)).trans hw157_0),((HB.out.cell (World.block_lt_of_cell? w _ hw157_1)).trans hw157_1),((HB.out.cell (World.block_lt_of_cell? w _ hw157_2)).trans hw157_2),((HB.out.cell (World.block_lt_of_cell? w _ hw158_0)).trans hw158_0),((HB.out.cell (World.block_lt_of_cell? w _ hw158_1)).trans hw158_1),((HB.out.cell (World.block_lt_of_cell? w _ hw158_2)).trans hw158_2)⟩ (fun hHeld=>?_)
        clear hK K
        refine norm_ (a':=?_) ?_ ?_
        rotate_left
        ·show Act.put _ (some 25) _ = _
         simp only [Act.put,List.setIfInBounds_toArray,List.set_cons_zero,List.set_cons_succ,i64_w,i32_w]
         rfl
        refine pure_ (i:=9) (N:=some 26) (v:=?_) (a':=?_) #[true,true,true,true,true,true,true,true,true,true] rfl rfl (any_of HT_.out (by kernel_rfl)) (fun _ _ _ h=>h) (Or.inl ⟨by rfl,?_⟩) ?_ ?_
        rotate_left
        ·intro w'
         go_simp
         with_reducible rfl
        rotate_left
        ·simp only [Act.put,List.setIfInBounds_toArray,List.set_cons_zero,List.set_cons_succ,i64_w,i32_w]
         rfl
        refine done_ (done_of HT_.out (by kernel_rfl)) ?_
        try go_wp2
        go_ret
        exact ⟨by first|rfl|(simp <;> rfl)|(simp [*] <;> rfl),by repeat (first|(with_reducible first|exact HB.out|apply below_alloc|apply pw_below_drewN|apply below_drew1)|exact HB.out)⟩
      ·rw [if_neg c6] at H
       exact absurd H (by simp)
     ·rw [if_neg c5] at H
      exact absurd H (by simp)
    ·rw [if_neg c4] at H
     have c4b0:decide (x5_1 < (l0.length:Int)) = false:=decide_eq_false c4
     clear c4
     obtain rfl:=Option.some.inj H
     go_wp2
     go_ret
     exact ⟨by first|rfl|(simp <;> rfl)|(simp [*] <;> rfl),by repeat (first|(with_reducible first|exact HB.out|apply below_alloc|apply pw_below_drewN|apply below_drew1)|exact HB.out)⟩
 ·rw [if_neg c3] at H
  have c3b0:((l0.length:Int) == (l1.length:Int)) = false:=beq_eq_false_iff_ne.mpr c3
  have c3b1:((l0.length:Int) != (l1.length:Int)) = true:=bne_iff_ne.mpr c3
  have c3b2:(l0.length == l1.length) = false:=by first|simpa using c3|(simp at c3 ⊢;omega)
  obtain rfl:=Option.some.inj H
  go_enter Try.func23,Try.ntmps23
  go_wp2
  go_ret
  exact ⟨by first|rfl|(simp <;> rfl)|(simp [*] <;> rfl),by repeat (first|(with_reducible first|exact HB.out|apply below_alloc|apply pw_below_drewN|apply below_drew1)|exact HB.out)⟩

/-! ### laws_markText: function 61 -/
def laws_markText.l0:Nat → Int → ByteArray → Option (ByteArray)
 | 0,_,_=>none
 | k + 1,x0,x3=>if x0 > 0 then ((some (([(wrap64 (48 + (Int.tmod x0 10))) % 256]:List Int):List Int)).bind fun y160=>(if (strOfNums y160).size + x3.size ≤ 9223372036854775807 then (laws_markText.l0 k (wrap64 (Int.tdiv x0 10)) ((strOfNums y160) ++ x3)) else (none))) else (if 1 + x3.size ≤ 9223372036854775807 then (some ((⟨#[109]⟩:ByteArray) ++ x3)) else (none))
def laws_markText.f (k:Nat) (a0:Int):Option (ByteArray):=if a0 ≤ 0 then (some (⟨#[109,48]⟩:ByteArray)) else (laws_markText.l0 k a0 (⟨#[]⟩:ByteArray))
theorem laws_markText.mono_l:∀ k,(∀ y0 y1,LeO (laws_markText.l0 k y0 y1) (laws_markText.l0 (k + 1) y0 y1))
 | 0=>fun _ _ r h=>by simp [laws_markText.l0] at h
 | k + 1=>by
  have ih0:=laws_markText.mono_l k
  ·intro y0 y1
   unfold laws_markText.l0
   repeat' first
   | (with_reducible exact ih0 _ _)
   | (with_reducible exact LeO.refl _)
   | (with_reducible exact LeO.none _)
   | (with_reducible refine LeO.ite ?_ ?_)
   | (with_reducible refine LeO.bind ?_ (fun _=>?_))
   | exact ih0 _ _
   | exact LeO.none _
   | refine LeO.ite ?_ ?_
   | refine LeO.bind ?_ (fun _=>?_)
theorem laws_markText.mono:∀ a0 k,LeO (laws_markText.f k a0) (laws_markText.f (k + 1) a0):=by
 intro a0 k
 have ih0:=laws_markText.mono_l k
 unfold laws_markText.f
 repeat' first
   | (with_reducible exact ih0 _ _)
   | (with_reducible exact LeO.refl _)
   | (with_reducible exact LeO.none _)
   | (with_reducible refine LeO.ite ?_ ?_)
   | (with_reducible refine LeO.bind ?_ (fun _=>?_))
   | exact ih0 _ _
   | exact LeO.none _
   | refine LeO.ite ?_ ?_
   | refine LeO.bind ?_ (fun _=>?_)
theorem laws_markText.calls (k:Nat) (a0:Int) (r:ByteArray) (w:World) (h:laws_markText.f k a0 = some r) :
  Calls Try.prog 61 #[.int .i64 a0] w fun e w'=>e = .returned (.string r) ∧ Below w.heap.size w w':=by
 have HB:=Aside0.mk (Below.refl w.heap.size w)
 have H:(if a0 ≤ 0 then (some (⟨#[109,48]⟩:ByteArray)) else (laws_markText.l0 k a0 (⟨#[]⟩:ByteArray))) = some r:=h
 clear h
 by_cases c2:a0 ≤ 0
 ·rw [if_pos c2] at H
  have c2b0:decide (a0 ≤ 0) = true:=decide_eq_true c2
  clear c2
  obtain rfl:=Option.some.inj H
  go_enter Try.func61,Try.ntmps61
  go_wp2
  go_ret
  exact ⟨by first|rfl|(simp <;> rfl)|(simp [*] <;> rfl),by repeat (first|(with_reducible first|exact HB.out|apply below_alloc|apply pw_below_drewN|apply below_drew1)|exact HB.out)⟩
 ·rw [if_neg c2] at H
  have c2b0:decide (a0 ≤ 0) = false:=decide_eq_false c2
  clear c2
  have H':=Aside0.mk H
  clear H
  go_enter Try.func61,Try.ntmps61
  go_wp2
  go_loopg [0,3] k (fun kq v0 v3 w'=>∃ (x0_1:Int) (x3_1:ByteArray),v0 = .int .i64 x0_1 ∧ v3 = .string x3_1 ∧ Aside0 (laws_markText.l0 kq x0_1 x3_1 = some r) ∧ Aside0 (kq ≤ k) ∧ Aside0 (Below w.heap.size w w'))
  case atStart=>exact ⟨(a0),((⟨#[]⟩:ByteArray)),(by first|rfl|(simp;done)|(simp only [i64_w,i32_w];done)|(simp only [i64_w,i32_w];rfl)|(simp [*];done)|(simp [emp_bne,emp_beq];done)),(by first|rfl|(simp;done)|(simp only [i64_w,i32_w];done)|(simp only [i64_w,i32_w];rfl)|(simp [*];done)|(simp [emp_bne,emp_beq];done)),H',⟨Nat.le_refl _⟩,⟨by repeat (first|(with_reducible first|exact HB.out|apply below_alloc|apply pw_below_drewN|apply below_drew1)|exact HB.out)⟩⟩
  case round =>
   clear H'
   try clear c2
   try clear c2b0
   try clear p2
   obtain ⟨x0_1,x3_1,rfl,rfl,HA,HK1,HB⟩:=hrel
   cases gk with
   | zero=>exact absurd HA.out (by simp [laws_markText.l0])
   | succ k1 =>
    have H:=HA.out
    clear HA
    simp only [laws_markText.l0] at H
    by_cases c3:x0_1 > 0
    ·rw [if_pos c3] at H
     have c3b0:decide (0 < x0_1) = true:=decide_eq_true c3
     clear c3
     obtain ⟨y160,hy160⟩:∃ y_:List Int,y_ = (([(wrap64 (48 + (Int.tmod x0_1 10))) % 256]:List Int)):=⟨_,rfl⟩
     replace H:(if (strOfNums y160).size + x3_1.size ≤ 9223372036854775807 then (laws_markText.l0 k1 (wrap64 (Int.tdiv x0_1 10)) ((strOfNums y160) ++ x3_1)) else (none)) = some r:=by first|(rw [hy160];with_reducible exact H)|(have H2_:=(Option.bind_some _ _).symm.trans H;rw [hy160];with_reducible exact H2_)|(have H2_:=(Option.bind_some _ _).symm.trans H;with_reducible exact H2_)|with_reducible exact H|(rw [hy160];exact H)|exact H
     have Ny160:=Aside0.mk hy160
     clear hy160
     by_cases c4:(strOfNums y160).size + x3_1.size ≤ 9223372036854775807
     ·rw [if_pos c4] at H
      have c4b0:=eq_true c4
      have c4b1:=decide_eq_true c4
      try have c4b2:(9223372036854775807 < (strOfNums y160).size + x3_1.size) = False:=eq_false (Nat.not_lt.2 c4)
      have H':=Aside0.mk H
      clear H
      go_wp2_with (first|((with_reducible refine gate_dst (N:=12) rfl ?_);refine Kd.R_lit (Kd.int .u8) _ 5 ?hg (N:=12) ?hd (xs:=([(wrap64 (48 + (Int.tmod x0_1 10))) % 256]:List Int)) (inner:=[.int .u8 ((wrap64 (48 + (Int.tmod x0_1 10))) % 256)]) (ok:=fun _=>True) (okp:=fun _=>True) ?hr ?hp (fun _ hk=>hk) trivial (Below.refl _ _) (Nat.le_refl _) (by simp) ?_;(case hd=>rfl);(case hg=>rfl);(case hr=>first|(go_simp;done)|(go_simp;rfl));(case hp=>exact (Reps.one (show Kd.M (Kd.int .u8) _ _ _ ((wrap64 (48 + (Int.tmod x0_1 10))) % 256) [.int .u8 ((wrap64 (48 + (Int.tmod x0_1 10))) % 256)] from rfl) (Reps.none _ _)));intro v161 w5 ho6 hb hg_ hnew_;clear hg_ hnew_;(first|rw [← Ny160.out] at ho6|(simp only [Int.reduceToNat] at ho6;rw [← Ny160.out] at ho6));have n0_:=Aside0.mk (Kd.R_lower ho6 (below_size (by repeat (first|(with_reducible first|exact HB.out|apply below_alloc|apply pw_below_drewN|apply below_drew1)|exact HB.out))));have n1_:=Aside0.mk (below_step (by repeat (first|(with_reducible first|exact HB.out|apply below_alloc|apply pw_below_drewN|apply below_drew1)|exact HB.out)) hb);clear HB;have HO162:=n0_;have HB:=n1_;clear n0_ n1_;clear hb ho6;have hcv7:=own_string (P:=Try.prog) Try.underlying23 Try.underlying5 Try.underlying9 (Kd.own_of_R HO162.out)))
      go_roundg k1
      case measure=>have:=HK1.out;omega
      case rel=>exact ⟨(wrap64 (Int.tdiv x0_1 10)),((strOfNums y160) ++ x3_1),(by first|rfl|(simp;done)|(simp only [i64_w,i32_w];done)|(simp only [i64_w,i32_w];rfl)|(simp [*];done)|(simp [emp_bne,emp_beq];done)),(by first|rfl|(simp;done)|(simp only [i64_w,i32_w];done)|(simp only [i64_w,i32_w];rfl)|(simp [*];done)|(simp [emp_bne,emp_beq];done)),H',⟨by have:=HK1.out;omega⟩,⟨by repeat (first|(with_reducible first|exact HB.out|apply below_alloc|apply pw_below_drewN|apply below_drew1)|exact HB.out)⟩⟩
     ·rw [if_neg c4] at H
      exact absurd H (by simp)
    ·rw [if_neg c3] at H
     have c3b0:decide (0 < x0_1) = false:=decide_eq_false c3
     clear c3
     by_cases c8:1 + x3_1.size ≤ 9223372036854775807
     ·rw [if_pos c8] at H
      have c8b0:=eq_true c8
      have c8b1:=decide_eq_true c8
      try have c8b2:(9223372036854775807 < 1 + x3_1.size) = False:=eq_false (Nat.not_lt.2 c8)
      obtain rfl:=Option.some.inj H
      go_wp2
      go_ret
      exact ⟨by first|rfl|(simp <;> rfl)|(simp [*] <;> rfl),by repeat (first|(with_reducible first|exact HB.out|apply below_alloc|apply pw_below_drewN|apply below_drew1)|exact HB.out)⟩
     ·rw [if_neg c8] at H
      exact absurd H (by simp)

/-! ### laws_markStringS: function 45 -/
def laws_markStringS.l0:Nat → List ByteArray → Int → Int → Option (Int × List ByteArray)
 | 0,_,_,_=>none
 | k + 1,x0,x1,x5=>if x5 < (x0.length:Int) then ((laws_markText.f k x1).bind fun t163=>(if 0 ≤ x5 then (laws_markStringS.l0 k (x0.set (x5:Int).toNat t163) (wrap64 (x1 + 1)) (wrap64 (x5 + 1))) else (none))) else (some (x1,x0))
def laws_markStringS.f (k:Nat) (l0:List ByteArray) (a1:Int):Option (Int × List ByteArray):=laws_markStringS.l0 k l0 a1 0
theorem laws_markStringS.mono_l:∀ k,(∀ y0 y1 y2,LeO (laws_markStringS.l0 k y0 y1 y2) (laws_markStringS.l0 (k + 1) y0 y1 y2))
 | 0=>fun _ _ _ r h=>by simp [laws_markStringS.l0] at h
 | k + 1=>by
  have ih0:=laws_markStringS.mono_l k
  ·intro y0 y1 y2
   unfold laws_markStringS.l0
   repeat' first
   | (with_reducible exact ih0 _ _ _)
   | (with_reducible exact laws_markText.mono _ _)
   | (with_reducible exact LeO.refl _)
   | (with_reducible exact LeO.none _)
   | (with_reducible refine LeO.ite ?_ ?_)
   | (with_reducible refine LeO.bind ?_ (fun _=>?_))
   | exact ih0 _ _ _
   | exact laws_markText.mono _ _
   | exact LeO.none _
   | refine LeO.ite ?_ ?_
   | refine LeO.bind ?_ (fun _=>?_)
theorem laws_markStringS.mono:∀ a0 a1 k,LeO (laws_markStringS.f k a0 a1) (laws_markStringS.f (k + 1) a0 a1):=by
 intro a0 a1 k
 have ih0:=laws_markStringS.mono_l k
 unfold laws_markStringS.f
 repeat' first
   | (with_reducible exact ih0 _ _ _)
   | (with_reducible exact laws_markText.mono _ _)
   | (with_reducible exact LeO.refl _)
   | (with_reducible exact LeO.none _)
   | (with_reducible refine LeO.ite ?_ ?_)
   | (with_reducible refine LeO.bind ?_ (fun _=>?_))
   | exact ih0 _ _ _
   | exact laws_markText.mono _ _
   | exact LeO.none _
   | refine LeO.ite ?_ ?_
   | refine LeO.bind ?_ (fun _=>?_)
theorem laws_markStringS.calls (k:Nat) (P0_:Nat → Prop) (u9000_:Value) (l0:List ByteArray) (a1:Int) (r1:Int) (r2:List ByteArray) (w0 w:World) (hB:Below w0.heap.size w0 w) (ho0:Kd.R Kd.string 9 w w0.heap.size P0_ u9000_ l0) (h:laws_markStringS.f k l0 a1 = some (r1,r2)) :
  Calls Try.prog 45 #[u9000_, .int .i64 a1] w fun e w'=>e = .returned (.int .i64 r1) ∧ Kd.R Kd.string 9 w' w0.heap.size (fun k_=>(P0_ k_ ∨ w.heap.size ≤ k_)) u9000_ r2 ∧ Below w0.heap.size w0 w' ∧ Kept w w' (fun k_=>P0_ k_):=by
 have HO0:=Aside0.mk (show Kd.R Kd.string 9 w w0.heap.size (fun k_=>(P0_ k_ ∨ w.heap.size ≤ k_)) u9000_ l0 from Kd.R_mono ho0 (fun k_ hk=>(.inl hk)))
 have HK:=Aside0.mk (Kept.refl w (fun k_=>P0_ k_))
 have HW0:=Aside0.mk hB.size
 have HB:=Aside0.mk hB
 clear hB
 have H:(laws_markStringS.l0 k l0 a1 0) = some (r1,r2):=h
 clear h
 have H':=Aside0.mk H
 clear H
 go_enter Try.func45,Try.ntmps45
 go_wp2
 go_loopg [1,5] k (fun kq v1 v5 w'=>∃ (x0_1:List ByteArray) (x1_1:Int) (x5_1:Int),v1 = .int .i64 x1_1 ∧ v5 = .int .i64 x5_1 ∧ Aside0 (laws_markStringS.l0 kq x0_1 x1_1 x5_1 = some (r1,r2)) ∧ Aside0 (kq ≤ k) ∧ Aside0 (Kd.R Kd.string 9 w' w0.heap.size (fun k_=>(P0_ k_ ∨ w.heap.size ≤ k_)) u9000_ x0_1) ∧ Aside0 (Kept w w' (fun k_=>P0_ k_)) ∧ Aside0 (Below w0.heap.size w0 w'))
 case atStart=>exact ⟨(l0),(a1),(0),(by first|rfl|(simp;done)|(simp only [i64_w,i32_w];done)|(simp only [i64_w,i32_w];rfl)|(simp [*];done)|(simp [emp_bne,emp_beq];done)),(by first|rfl|(simp;done)|(simp only [i64_w,i32_w];done)|(simp only [i64_w,i32_w];rfl)|(simp [*];done)|(simp [emp_bne,emp_beq];done)),H',⟨Nat.le_refl _⟩,⟨by (with_reducible repeat (first|apply Kd.R_alloc|apply Kd.R_drewN|apply Kd.R_drew));exact HO0.out⟩,⟨by repeat (first|(with_reducible first|exact HK.out|apply Kept.alloc|apply Kept.drewN|apply Kept.drew)|exact HK.out)⟩,⟨by repeat (first|(with_reducible first|exact HB.out|apply below_alloc|apply pw_below_drewN|apply below_drew1)|exact HB.out)⟩⟩
 case round =>
  clear H'
  try clear p2
  obtain ⟨x0_1,x1_1,x5_1,rfl,rfl,HA,HK1,HO_0,HK,HB⟩:=hrel
  cases gk with
  | zero=>exact absurd HA.out (by simp [laws_markStringS.l0])
  | succ k1 =>
   have H:=HA.out
   clear HA
   simp only [laws_markStringS.l0] at H
   by_cases c3:x5_1 < (x0_1.length:Int)
   ·rw [if_pos c3] at H
    have c3b0:decide (x5_1 < (x0_1.length:Int)) = true:=decide_eq_true c3
    clear c3
    replace H:=Option.bind_eq_some_iff.mp H
    obtain ⟨t163,A40,H⟩:=H
    replace H:(if 0 ≤ x5_1 then (laws_markStringS.l0 k1 (x0_1.set (x5_1:Int).toNat t163) (wrap64 (x1_1 + 1)) (wrap64 (x5_1 + 1))) else (none)) = some (r1,r2):=H
    have A4:=Aside0.mk A40
    clear A40
    by_cases c5:0 ≤ x5_1
    ·rw [if_pos c5] at H
     have c5b0:decide (0 ≤ x5_1) = true:=decide_eq_true c5
     clear c5
     obtain ⟨y164,hy164⟩:∃ y_:List ByteArray,y_ = (x0_1.set (x5_1:Int).toNat t163):=⟨_,rfl⟩
     replace H:(laws_markStringS.l0 k1 y164 (wrap64 (x1_1 + 1)) (wrap64 (x5_1 + 1))) = some (r1,r2):=by first|(rw [hy164];with_reducible exact H)|(have H2_:=(Option.bind_some _ _).symm.trans H;rw [hy164];with_reducible exact H2_)|(have H2_:=(Option.bind_some _ _).symm.trans H;with_reducible exact H2_)|with_reducible exact H|(rw [hy164];exact H)|exact H
     have Ny164:=Aside0.mk hy164
     clear hy164
     have H':=Aside0.mk H
     clear H
     obtain ⟨Ao7,co7,eo7⟩:=Kd.R_slice HO_0.out
     subst eo7
     go_wp2_with (first|((with_reducible refine gate_callee (f:=61) rfl ?_);refine goesL_ (some 15) rfl rfl Try.func61 (by kernel_rfl) rfl #[.int .i64 x1_1] rfl (by (try simp only [List.map_toArray,List.map_cons,List.map_nil]);first|done|rfl|(simp only [List.length_drop,List.length_take];rfl)) ?_;(with_reducible refine (laws_markText.calls k1 x1_1 t163 _ A4.out).mono ?_);rintro e w8 ⟨rfl,hb⟩;refine ⟨_,rfl,?_⟩;have n0_:=Aside0.mk (Kd.R_below (by (with_reducible repeat (first|apply Kd.R_alloc|apply Kd.R_drewN|apply Kd.R_drew));exact HO_0.out) hb);have n1_:=Aside0.mk (Kept.below (S:=(fun k_=>P0_ k_)) (by repeat (first|(with_reducible first|exact HK.out|apply Kept.alloc|apply Kept.drewN|apply Kept.drew)|exact HK.out)) hb);have n2_:=Aside0.mk (below_step (by repeat (first|(with_reducible first|exact HB.out|apply below_alloc|apply pw_below_drewN|apply below_drew1)|exact HB.out)) hb);clear HO_0;clear HK;clear HB;have HO_0:=n0_;have HK:=n1_;have HB:=n2_;clear n0_ n1_ n2_;(try clear hb);(try clear hb2);(try clear hk);(try clear hi);have p6:0 ≤ (x5_1:Int):=of_decide_eq_true (by first|(with_reducible assumption)|assumption);have q6:(x5_1:Int) < ((x0_1.length:Int):Int):=of_decide_eq_true (by first|(with_reducible assumption)|assumption);obtain ⟨go6,co6,eo6,gb6,gl6,cl6,HG6⟩:=Kd.R_form HO_0.out (by omega);(first|cases eo6|(injection eo6 with ea_ en_ ec_;(first|subst ea_|(injection ea_ with ea_;subst ea_));subst ec_;clear en_));have GB6:=Aside0.mk gb6;have GG6:=Aside0.mk HG6;clear gb6 gl6 HG6;have HMgo6:=Aside0.mk (show (P0_ go6 ∨ w.heap.size ≤ go6) from (HO_0.out.1 _ rfl));obtain ⟨hx6_0,hf6_0⟩:=Kd.R_celln (⟨#[]⟩:ByteArray) HO_0.out (x5_1:Int) p6 q6;replace p6:=eq_true p6;replace q6:=eq_true q6;obtain ⟨hy9_,hz9_⟩:=Kd.R_celln (⟨#[]⟩:ByteArray) HO_0.out (x5_1:Int) (of_decide_eq_true (by first|(with_reducible assumption)|assumption)) (of_decide_eq_true (by first|(with_reducible assumption)|assumption));have HP9:=Kd.R_putg HO_0.out (x5_1:Int) t163)|((with_reducible refine gate_store (t:=9) (p:=16) rfl ?_);refine store_event (t:=9) (p:=16) (v:=?vo_w10) (w1:=(w8.setCell ⟨go6,(x5_1:Int).toNat,none⟩ (.string t163))) ?hg ?ho ?hn ?hr ?_;(case ho=>rfl);(case hg=>rfl);(case hn=>rfl);(case hr=>first|(go_simp;done)|(go_simp;rfl));intro w10 hw;have hg:w8.grownBy w10 (some go6):=(by rw [hw];exact HP9.2);have hp_:Kd.R Kd.string 9 w10 w0.heap.size (fun k_=>(P0_ k_ ∨ w.heap.size ≤ k_)) (.slice (some ⟨go6,0,none⟩) x0_1.length co7) y164:=(by rw [hw,Ny164.out];exact HP9.1);clear HP9;have n0_:=Aside0.mk (hp_);have n1_:=Aside0.mk ((by rw [hw];exact below_set (HB.out) GB6.out:Below w0.heap.size w0 w10));have n2_:=Aside0.mk (Kept.of_grown (S:=(fun k_=>P0_ k_)) hg (by repeat (first|(with_reducible first|exact HK.out|apply Kept.alloc|apply Kept.drewN|apply Kept.drew)|exact HK.out)) (fun k_ e_=>(HO_0.out.1 k_ e_)));clear HO_0;clear HB;clear HK;have HO_0:=n0_;have HB:=n1_;have HK:=n2_;clear n0_ n1_ n2_;clear hg hw hp_))
     go_roundg k1
     case measure=>have:=HK1.out;omega
     case rel=>exact ⟨(y164),(wrap64 (x1_1 + 1)),(wrap64 (x5_1 + 1)),(by first|rfl|(simp;done)|(simp only [i64_w,i32_w];done)|(simp only [i64_w,i32_w];rfl)|(simp [*];done)|(simp [emp_bne,emp_beq];done)),(by first|rfl|(simp;done)|(simp only [i64_w,i32_w];done)|(simp only [i64_w,i32_w];rfl)|(simp [*];done)|(simp [emp_bne,emp_beq];done)),H',⟨by have:=HK1.out;omega⟩,⟨by (with_reducible repeat (first|apply Kd.R_alloc|apply Kd.R_drewN|apply Kd.R_drew));exact HO_0.out⟩,⟨by repeat (first|(with_reducible first|exact HK.out|apply Kept.alloc|apply Kept.drewN|apply Kept.drew)|exact HK.out)⟩,⟨by repeat (first|(with_reducible first|exact HB.out|apply below_alloc|apply pw_below_drewN|apply below_drew1)|exact HB.out)⟩⟩
    ·rw [if_neg c5] at H
     exact absurd H (by simp)
   ·rw [if_neg c3] at H
    have c3b0:decide (x5_1 < (x0_1.length:Int)) = false:=decide_eq_false c3
    clear c3
    simp only [Option.some.injEq,Prod.mk.injEq] at H
    obtain ⟨rfl,rfl⟩:=H
    obtain ⟨Ao11,co11,eo11⟩:=Kd.R_slice HO_0.out
    subst eo11
    go_wp2
    go_ret
    exact ⟨by first|rfl|(simp <;> rfl)|(simp [*] <;> rfl),by (with_reducible repeat (first|apply Kd.R_alloc|apply Kd.R_drewN|apply Kd.R_drew));exact HO_0.out,by repeat (first|(with_reducible first|exact HB.out|apply below_alloc|apply pw_below_drewN|apply below_drew1)|exact HB.out),by repeat (first|(with_reducible first|exact HK.out|apply Kept.alloc|apply Kept.drewN|apply Kept.drew)|exact HK.out)⟩

/-! ### laws_markRuleS: function 46 -/
def laws_markRuleS.l0:Nat → List (S57) → Int → Int → Option (Int × (List (S57)))
 | 0,_,_,_=>none
 | k + 1,x0,x1,x5=>if x5 < (x0.length:Int) then (if 0 ≤ x5 then ((some (x0.set (x5:Int).toNat (⟨((Int.tmod x1 3) == 0),(rd_T57 x0 x5).f1⟩:S57):List (S57))).bind fun y165=>((laws_markText.f k (wrap64 (x1 + 1))).bind fun t166=>(laws_markRuleS.l0 k (y165.set (x5:Int).toNat (⟨(rd_T57 y165 x5).f0,t166⟩:S57)) (wrap64 ((wrap64 (x1 + 1)) + 1)) (wrap64 (x5 + 1))))) else (none)) else (some (x1,x0))
def laws_markRuleS.f (k:Nat) (l0:List (S57)) (a1:Int):Option (Int × (List (S57))):=laws_markRuleS.l0 k l0 a1 0
theorem laws_markRuleS.mono_l:∀ k,(∀ y0 y1 y2,LeO (laws_markRuleS.l0 k y0 y1 y2) (laws_markRuleS.l0 (k + 1) y0 y1 y2))
 | 0=>fun _ _ _ r h=>by simp [laws_markRuleS.l0] at h
 | k + 1=>by
  have ih0:=laws_markRuleS.mono_l k
  ·intro y0 y1 y2
   unfold laws_markRuleS.l0
   repeat' first
   | (with_reducible exact ih0 _ _ _)
   | (with_reducible exact laws_markText.mono _ _)
   | (with_reducible exact LeO.refl _)
   | (with_reducible exact LeO.none _)
   | (with_reducible refine LeO.ite ?_ ?_)
   | (with_reducible refine LeO.bind ?_ (fun _=>?_))
   | exact ih0 _ _ _
   | exact laws_markText.mono _ _
   | exact LeO.none _
   | refine LeO.ite ?_ ?_
   | refine LeO.bind ?_ (fun _=>?_)
theorem laws_markRuleS.mono:∀ a0 a1 k,LeO (laws_markRuleS.f k a0 a1) (laws_markRuleS.f (k + 1) a0 a1):=by
 intro a0 a1 k
 have ih0:=laws_markRuleS.mono_l k
 unfold laws_markRuleS.f
 repeat' first
   | (with_reducible exact ih0 _ _ _)
   | (with_reducible exact laws_markText.mono _ _)
   | (with_reducible exact LeO.refl _)
   | (with_reducible exact LeO.none _)
   | (with_reducible refine LeO.ite ?_ ?_)
   | (with_reducible refine LeO.bind ?_ (fun _=>?_))
   | exact ih0 _ _ _
   | exact laws_markText.mono _ _
   | exact LeO.none _
   | refine LeO.ite ?_ ?_
   | refine LeO.bind ?_ (fun _=>?_)
theorem laws_markRuleS.calls (k:Nat) (P0_:Nat → Prop) (u9000_:Value) (l0:List (S57)) (a1:Int) (r1:Int) (r2:List (S57)) (w0 w:World) (hB:Below w0.heap.size w0 w) (ho0:Kd.R k57 57 w w0.heap.size P0_ u9000_ l0) (h:laws_markRuleS.f k l0 a1 = some (r1,r2)) :
  Calls Try.prog 46 #[u9000_, .int .i64 a1] w fun e w'=>e = .returned (.int .i64 r1) ∧ Kd.R k57 57 w' w0.heap.size (fun k_=>(P0_ k_ ∨ w.heap.size ≤ k_)) u9000_ r2 ∧ Below w0.heap.size w0 w' ∧ Kept w w' (fun k_=>P0_ k_):=by
 have HO0:=Aside0.mk (show Kd.R k57 57 w w0.heap.size (fun k_=>(P0_ k_ ∨ w.heap.size ≤ k_)) u9000_ l0 from Kd.R_mono ho0 (fun k_ hk=>(.inl hk)))
 have HK:=Aside0.mk (Kept.refl w (fun k_=>P0_ k_))
 have HW0:=Aside0.mk hB.size
 have HB:=Aside0.mk hB
 clear hB
 have H:(laws_markRuleS.l0 k l0 a1 0) = some (r1,r2):=h
 clear h
 have H':=Aside0.mk H
 clear H
 go_enter Try.func46,Try.ntmps46
 go_wp2
 go_loopg [1,5] k (fun kq v1 v5 w'=>∃ (x0_1:List (S57)) (x1_1:Int) (x5_1:Int),v1 = .int .i64 x1_1 ∧ v5 = .int .i64 x5_1 ∧ Aside0 (laws_markRuleS.l0 kq x0_1 x1_1 x5_1 = some (r1,r2)) ∧ Aside0 (kq ≤ k) ∧ Aside0 (Kd.R k57 57 w' w0.heap.size (fun k_=>(P0_ k_ ∨ w.heap.size ≤ k_)) u9000_ x0_1) ∧ Aside0 (Kept w w' (fun k_=>P0_ k_)) ∧ Aside0 (Below w0.heap.size w0 w'))
 case atStart=>exact ⟨(l0),(a1),(0),(by first|rfl|(simp;done)|(simp only [i64_w,i32_w];done)|(simp only [i64_w,i32_w];rfl)|(simp [*];done)|(simp [emp_bne,emp_beq];done)),(by first|rfl|(simp;done)|(simp only [i64_w,i32_w];done)|(simp only [i64_w,i32_w];rfl)|(simp [*];done)|(simp [emp_bne,emp_beq];done)),H',⟨Nat.le_refl _⟩,⟨by (with_reducible repeat (first|apply Kd.R_alloc|apply Kd.R_drewN|apply Kd.R_drew));exact HO0.out⟩,⟨by repeat (first|(with_reducible first|exact HK.out|apply Kept.alloc|apply Kept.drewN|apply Kept.drew)|exact HK.out)⟩,⟨by repeat (first|(with_reducible first|exact HB.out|apply below_alloc|apply pw_below_drewN|apply below_drew1)|exact HB.out)⟩⟩
 case round =>
  clear H'
  try clear p2
  obtain ⟨x0_1,x1_1,x5_1,rfl,rfl,HA,HK1,HO_0,HK,HB⟩:=hrel
  cases gk with
  | zero=>exact absurd HA.out (by simp [laws_markRuleS.l0])
  | succ k1 =>
   have H:=HA.out
   clear HA
   simp only [laws_markRuleS.l0] at H
   by_cases c3:x5_1 < (x0_1.length:Int)
   ·rw [if_pos c3] at H
    have c3b0:decide (x5_1 < (x0_1.length:Int)) = true:=decide_eq_true c3
    clear c3
    by_cases c4:0 ≤ x5_1
    ·rw [if_pos c4] at H
     have c4b0:decide (0 ≤ x5_1) = true:=decide_eq_true c4
     clear c4
     obtain ⟨y165,hy165⟩:∃ y_:List (S57),y_ = (x0_1.set (x5_1:Int).toNat (⟨((Int.tmod x1_1 3) == 0),(rd_T57 x0_1 x5_1).f1⟩:S57)):=⟨_,rfl⟩
     replace H:((laws_markText.f k1 (wrap64 (x1_1 + 1))).bind fun t166=>(laws_markRuleS.l0 k1 (y165.set (x5_1:Int).toNat (⟨(rd_T57 y165 x5_1).f0,t166⟩:S57)) (wrap64 ((wrap64 (x1_1 + 1)) + 1)) (wrap64 (x5_1 + 1)))) = some (r1,r2):=by first|(rw [hy165];with_reducible exact H)|(have H2_:=(Option.bind_some _ _).symm.trans H;rw [hy165];with_reducible exact H2_)|(have H2_:=(Option.bind_some _ _).symm.trans H;with_reducible exact H2_)|with_reducible exact H|(rw [hy165];exact H)|exact H
     have Ny165:=Aside0.mk hy165
     clear hy165
     replace H:=Option.bind_eq_some_iff.mp H
     obtain ⟨t166,A60,H⟩:=H
     replace H:(laws_markRuleS.l0 k1 (y165.set (x5_1:Int).toNat (⟨(rd_T57 y165 x5_1).f0,t166⟩:S57)) (wrap64 ((wrap64 (x1_1 + 1)) + 1)) (wrap64 (x5_1 + 1))) = some (r1,r2):=H
     have A6:=Aside0.mk A60
     clear A60
     obtain ⟨y167,hy167⟩:∃ y_:List (S57),y_ = (y165.set (x5_1:Int).toNat (⟨(rd_T57 y165 x5_1).f0,t166⟩:S57)):=⟨_,rfl⟩
     replace H:(laws_markRuleS.l0 k1 y167 (wrap64 ((wrap64 (x1_1 + 1)) + 1)) (wrap64 (x5_1 + 1))) = some (r1,r2):=by first|(rw [hy167];with_reducible exact H)|(have H2_:=(Option.bind_some _ _).symm.trans H;rw [hy167];with_reducible exact H2_)|(have H2_:=(Option.bind_some _ _).symm.trans H;with_reducible exact H2_)|with_reducible exact H|(rw [hy167];exact H)|exact H
     have Ny167:=Aside0.mk hy167
     clear hy167
     have H':=Aside0.mk H
     clear H
     obtain ⟨Ao8,co8,eo8⟩:=Kd.R_slice HO_0.out
     subst eo8
     have p5:0 ≤ (x5_1:Int):=of_decide_eq_true (by first|(with_reducible assumption)|assumption)
     have q5:(x5_1:Int) < ((x0_1.length:Int):Int):=of_decide_eq_true (by first|(with_reducible assumption)|assumption)
     obtain ⟨go5,co5,eo5,gb5,gl5,cl5,HG5⟩:=Kd.R_form HO_0.out (by omega)
     (first|cases eo5|(injection eo5 with ea_ en_ ec_;(first|subst ea_|(injection ea_ with ea_;subst ea_));subst ec_;clear en_))
     have GB5:=Aside0.mk gb5
     have GG5:=Aside0.mk HG5
     clear gb5 gl5 HG5
     have HMgo5:=Aside0.mk (show (P0_ go5 ∨ w.heap.size ≤ go5) from (HO_0.out.1 _ rfl))
     obtain ⟨ce5,hcl5,hM5,hcc5,hfr5⟩:=Kd.R_elem HO_0.out z57 (x5_1:Int) p5 q5
     obtain rfl:=k57_openM hM5
     have hx5_0:wr.cell? ⟨go5,(x5_1:Int).toNat * 2,none⟩ = some (.bool ((rd_T57 x0_1 x5_1).f0)):=hcc5 0 _ rfl
     have hx5_1:wr.cell? ⟨go5,(x5_1:Int).toNat * 2 + 1,none⟩ = some (.string ((rd_T57 x0_1 x5_1).f1)):=hcc5 1 _ rfl
     have hf5_0:wr.frozen? ⟨go5,(x5_1:Int).toNat * 2,none⟩ = false:=hfr5 0
     have hf5_1:wr.frozen? ⟨go5,(x5_1:Int).toNat * 2 + 1,none⟩ = false:=hfr5 1
     clear hcl5 hcc5 hfr5 hM5
     replace p5:=eq_true p5
     replace q5:=eq_true q5
     have HX9:=Aside0.mk (show Kd.R k57 57 wr w0.heap.size (fun k_=>(P0_ k_ ∨ w.heap.size ≤ k_)) (.slice (some ⟨go5,0,none⟩) x0_1.length co8) x0_1 from (by (with_reducible repeat (first|apply Kd.R_alloc|apply Kd.R_drewN|apply Kd.R_drew));exact HO_0.out))
     obtain ⟨ce9,hcl9,hM9,hcc9,hfr9⟩:=Kd.R_elem HX9.out z57 (x5_1:Int) (of_decide_eq_true (by first|(with_reducible assumption)|assumption)) (by have h_:(x5_1:Int) < ((x0_1.length:Int):Int):=of_decide_eq_true (by first|(with_reducible assumption)|assumption);first|exact h_|(have e_:=(Kd.R_reads' HO_0.out).1;omega)|simpa using h_)
     obtain rfl:=k57_openM hM9
     have HP9:=Kd.R_seg HX9.out (x5_1:Int) (of_decide_eq_true (by first|(with_reducible assumption)|assumption)) (by have h_:(x5_1:Int) < ((x0_1.length:Int):Int):=of_decide_eq_true (by first|(with_reducible assumption)|assumption);first|exact h_|(have e_:=(Kd.R_reads' HO_0.out).1;omega)|simpa using h_) (seg:=[.bool ((Int.tmod x1_1 3) == 0)]) (j:=0) hcl9 hcc9 (show 1 ≤ 2 from by decide) (x':=(⟨((Int.tmod x1_1 3) == 0),(rd_T57 x0_1 x5_1).f1⟩:S57)) (k57_mkM _ _ _ (⟨((Int.tmod x1_1 3) == 0),(rd_T57 x0_1 x5_1).f1⟩:S57) ) (fun _ hk=>hk)
     have hx9_0:=hcc9 0 _ rfl
     (try simp only [show (k57).sz = 2 from rfl,Nat.mul_one,Nat.add_zero] at hx9_0)
     have hf9_0:=hfr9 0
     (try simp only [show (k57).sz = 2 from rfl,Nat.mul_one,Nat.add_zero] at hf9_0)
     clear hcl9 hcc9 hfr9 hM9
     go_wp2_with (first|((with_reducible refine gate_store (t:=4) (p:=18) rfl ?_);refine store_event (t:=4) (p:=18) (v:=?vo_w10) (w1:=(wr.setCell ⟨go5,(x5_1:Int).toNat * 2,none⟩ (.bool ((Int.tmod x1_1 3) == 0)))) ?hg ?ho ?hn ?hr ?_;(case ho=>rfl);(case hg=>rfl);(case hn=>rfl);(case hr=>first|(go_simp;done)|(go_simp;rfl));intro w10 hw;have hg:wr.grownBy w10 (some go5):=(by rw [hw];exact HP9.2);have hp_:Kd.R k57 57 w10 w0.heap.size (fun k_=>(P0_ k_ ∨ w.heap.size ≤ k_)) (.slice (some ⟨go5,0,none⟩) x0_1.length co8) y165:=(by rw [hw,Ny165.out];exact HP9.1);clear HP9;have n0_:=Aside0.mk (hp_);have n1_:=Aside0.mk ((by rw [hw];exact below_set (HB.out) GB5.out:Below w0.heap.size w0 w10));have n2_:=Aside0.mk (Kept.of_grown (S:=(fun k_=>P0_ k_)) hg (by repeat (first|(with_reducible first|exact HK.out|apply Kept.alloc|apply Kept.drewN|apply Kept.drew)|exact HK.out)) (fun k_ e_=>(HO_0.out.1 k_ e_)));clear HO_0;clear HB;clear HK;have HO_0:=n0_;have HB:=n1_;have HK:=n2_;clear n0_ n1_ n2_;clear hg hw hp_)|((with_reducible refine gate_callee (f:=61) rfl ?_);refine goesL_ (some 24) rfl rfl Try.func61 (by kernel_rfl) rfl #[.int .i64 (wrap64 (x1_1 + 1))] rfl (by (try simp only [List.map_toArray,List.map_cons,List.map_nil]);first|done|rfl|(simp only [List.length_drop,List.length_take];rfl)) ?_;(with_reducible refine (laws_markText.calls k1 (wrap64 (x1_1 + 1)) t166 _ A6.out).mono ?_);rintro e w11 ⟨rfl,hb⟩;refine ⟨_,rfl,?_⟩;have n0_:=Aside0.mk (Kd.R_below (by (with_reducible repeat (first|apply Kd.R_alloc|apply Kd.R_drewN|apply Kd.R_drew));exact HO_0.out) hb);have n1_:=Aside0.mk (Kept.below (S:=(fun k_=>P0_ k_)) (by repeat (first|(with_reducible first|exact HK.out|apply Kept.alloc|apply Kept.drewN|apply Kept.drew)|exact HK.out)) hb);have n2_:=Aside0.mk (below_step (by repeat (first|(with_reducible first|exact HB.out|apply below_alloc|apply pw_below_drewN|apply below_drew1)|exact HB.out)) hb);clear HO_0;clear HK;clear HB;have HO_0:=n0_;have HK:=n1_;have HB:=n2_;clear n0_ n1_ n2_;(try clear hb);(try clear hb2);(try clear hk);(try clear hi);have p7:0 ≤ (x5_1:Int):=of_decide_eq_true (by first|(with_reducible assumption)|assumption);have q7:(x5_1:Int) < ((x0_1.length:Int):Int):=of_decide_eq_true (by first|(with_reducible assumption)|assumption);obtain ⟨ce7,hcl7,hM7,hcc7,hfr7⟩:=Kd.R_elem HO_0.out z57 (x5_1:Int) p7 q7;obtain rfl:=k57_openM hM7;have hx7_0:w11.cell? ⟨go5,(x5_1:Int).toNat * 2,none⟩ = some (.bool ((rd_T57 y165 x5_1).f0)):=hcc7 0 _ rfl;have hx7_1:w11.cell? ⟨go5,(x5_1:Int).toNat * 2 + 1,none⟩ = some (.string ((rd_T57 y165 x5_1).f1)):=hcc7 1 _ rfl;have hf7_0:w11.frozen? ⟨go5,(x5_1:Int).toNat * 2,none⟩ = false:=hfr7 0;have hf7_1:w11.frozen? ⟨go5,(x5_1:Int).toNat * 2 + 1,none⟩ = false:=hfr7 1;clear hcl7 hcc7 hfr7 hM7;replace p7:=eq_true p7;replace q7:=eq_true q7;have HX12:=Aside0.mk (show Kd.R k57 57 w11 w0.heap.size (fun k_=>(P0_ k_ ∨ w.heap.size ≤ k_)) (.slice (some ⟨go5,0,none⟩) x0_1.length co8) y165 from (by (with_reducible repeat (first|apply Kd.R_alloc|apply Kd.R_drewN|apply Kd.R_drew));exact HO_0.out));obtain ⟨ce12,hcl12,hM12,hcc12,hfr12⟩:=Kd.R_elem HX12.out z57 (x5_1:Int) (of_decide_eq_true (by first|(with_reducible assumption)|assumption)) (by have h_:(x5_1:Int) < ((x0_1.length:Int):Int):=of_decide_eq_true (by first|(with_reducible assumption)|assumption);first|exact h_|(have e_:=(Kd.R_reads' HO_0.out).1;omega)|simpa using h_);obtain rfl:=k57_openM hM12;have HP12:=Kd.R_seg HX12.out (x5_1:Int) (of_decide_eq_true (by first|(with_reducible assumption)|assumption)) (by have h_:(x5_1:Int) < ((x0_1.length:Int):Int):=of_decide_eq_true (by first|(with_reducible assumption)|assumption);first|exact h_|(have e_:=(Kd.R_reads' HO_0.out).1;omega)|simpa using h_) (seg:=[.string t166]) (j:=1) hcl12 hcc12 (show 2 ≤ 2 from by decide) (x':=(⟨(rd_T57 y165 x5_1).f0,t166⟩:S57)) (k57_mkM _ _ _ (⟨(rd_T57 y165 x5_1).f0,t166⟩:S57) ) (fun _ hk=>hk);have hx12_1:=hcc12 1 _ rfl;(try simp only [show (k57).sz = 2 from rfl,Nat.mul_one,Nat.add_zero] at hx12_1);have hf12_1:=hfr12 1;(try simp only [show (k57).sz = 2 from rfl,Nat.mul_one,Nat.add_zero] at hf12_1);clear hcl12 hcc12 hfr12 hM12)|((with_reducible refine gate_store (t:=9) (p:=26) rfl ?_);refine store_event (t:=9) (p:=26) (v:=?vo_w13) (w1:=(w11.setCell ⟨go5,(x5_1:Int).toNat * 2 + 1,none⟩ (.string t166))) ?hg ?ho ?hn ?hr ?_;(case ho=>rfl);(case hg=>rfl);(case hn=>rfl);(case hr=>first|(go_simp;done)|(go_simp;rfl));intro w13 hw;have hg:w11.grownBy w13 (some go5):=(by rw [hw];exact HP12.2);have hp_:Kd.R k57 57 w13 w0.heap.size (fun k_=>(P0_ k_ ∨ w.heap.size ≤ k_)) (.slice (some ⟨go5,0,none⟩) x0_1.length co8) y167:=(by rw [hw,Ny167.out];exact HP12.1);clear HP12;have n0_:=Aside0.mk (hp_);have n1_:=Aside0.mk ((by rw [hw];exact below_set (HB.out) GB5.out:Below w0.heap.size w0 w13));have n2_:=Aside0.mk (Kept.of_grown (S:=(fun k_=>P0_ k_)) hg (by repeat (first|(with_reducible first|exact HK.out|apply Kept.alloc|apply Kept.drewN|apply Kept.drew)|exact HK.out)) (fun k_ e_=>(HO_0.out.1 k_ e_)));clear HO_0;clear HB;clear HK;have HO_0:=n0_;have HB:=n1_;have HK:=n2_;clear n0_ n1_ n2_;clear hg hw hp_))
     go_roundg k1
     case measure=>have:=HK1.out;omega
     case rel=>exact ⟨(y167),(wrap64 ((wrap64 (x1_1 + 1)) + 1)),(wrap64 (x5_1 + 1)),(by first|rfl|(simp;done)|(simp only [i64_w,i32_w];done)|(simp only [i64_w,i32_w];rfl)|(simp [*];done)|(simp [emp_bne,emp_beq];done)),(by first|rfl|(simp;done)|(simp only [i64_w,i32_w];done)|(simp only [i64_w,i32_w];rfl)|(simp [*];done)|(simp [emp_bne,emp_beq];done)),H',⟨by have:=HK1.out;omega⟩,⟨by (with_reducible repeat (first|apply Kd.R_alloc|apply Kd.R_drewN|apply Kd.R_drew));exact HO_0.out⟩,⟨by repeat (first|(with_reducible first|exact HK.out|apply Kept.alloc|apply Kept.drewN|apply Kept.drew)|exact HK.out)⟩,⟨by repeat (first|(with_reducible first|exact HB.out|apply below_alloc|apply pw_below_drewN|apply below_drew1)|exact HB.out)⟩⟩
    ·rw [if_neg c4] at H
     exact absurd H (by simp)
   ·rw [if_neg c3] at H
    have c3b0:decide (x5_1 < (x0_1.length:Int)) = false:=decide_eq_false c3
    clear c3
    simp only [Option.some.injEq,Prod.mk.injEq] at H
    obtain ⟨rfl,rfl⟩:=H
    obtain ⟨Ao14,co14,eo14⟩:=Kd.R_slice HO_0.out
    subst eo14
    go_wp2
    go_ret
    exact ⟨by first|rfl|(simp <;> rfl)|(simp [*] <;> rfl),by (with_reducible repeat (first|apply Kd.R_alloc|apply Kd.R_drewN|apply Kd.R_drew));exact HO_0.out,by repeat (first|(with_reducible first|exact HB.out|apply below_alloc|apply pw_below_drewN|apply below_drew1)|exact HB.out),by repeat (first|(with_reducible first|exact HK.out|apply Kept.alloc|apply Kept.drewN|apply Kept.drew)|exact HK.out)⟩

/-! ### laws_markGroupS: function 25 -/
/-- The number that marking some groups comes to. -/
def laws_markGroupS.l0:Nat → List (S30) → Int → Option Int
 | 0,_,_=>none
 | _ + 1,[],m=>some m
 | k + 1,g :: t,m=>(laws_markStringS.f k g.f0 m).bind fun r=>(laws_markRuleS.f k g.f1 r.1).bind fun q=>laws_markGroupS.l0 k t (wrap64 (q.1 + 1))
def laws_markGroupS.f (k:Nat) (l0:List (S30)) (a1:Int):Option Int:=laws_markGroupS.l0 k l0 a1
theorem laws_markGroupS.differ {α β:Type} {d:Kd α} {d':Kd β} {e e' base base':Nat} {w:World} {ok ok':Nat → Prop} {v v':Value} {xs:List α} {ys:List β} (h:d.R e w base ok v xs) (h':d'.R e' w base' ok' v' ys) (he:e ≠ e') (k:Nat) (hk:some k = v.ownBlock) (hk':some k = v'.ownBlock):False:=by
 obtain ⟨c,hc⟩:=Kd.R_typed h k hk.symm
 obtain ⟨c',hc'⟩:=Kd.R_typed h' k hk'.symm
 rw [hc] at hc'
 injection hc' with hc'
 injection hc' with _ hc'
 exact he hc'
theorem laws_markGroupS.calls (k:Nat) (P0_:Nat → Prop) (v:Value) (l0:List (S30)) (a1 r:Int) (w0 w:World) (hB:Below w0.heap.size w0 w) (ho:Kd.S k30 30 w w0.heap.size P0_ v l0) (h:laws_markGroupS.f k l0 a1 = some r) :
  Calls Try.prog 25 #[v, .int .i64 a1] w fun e w'=>e = .returned (.int .i64 r) ∧ Below w0.heap.size w0 w' ∧ Kept w w' P0_:=by
 obtain ⟨A,c,rfl,hlc,hC⟩:=Kd.S_reads ho
 have hlen:l0.length ≤ 9223372036854775807:=by
  have:=hC.2.1
  omega
 clear hC
 have HS:=Aside0.mk ho
 have HB:=Aside0.mk hB
 have HK:=Aside0.mk (Kept.refl w P0_)
 have H':=Aside0.mk (show laws_markGroupS.l0 k (l0.drop 0) a1 = some r by rw [List.drop_zero];exact h)
 clear ho hB h
 go_enter Try.func25,Try.ntmps25
 go_wp2
 go_loopg [1,5] k (fun kq v1 v5 wr=>∃ (m:Int) (i:Nat) (xs:List S30),v1 = .int .i64 m ∧ v5 = .int .i64 i ∧ i ≤ l0.length ∧ Aside0 (xs.length = l0.length) ∧ Aside0 (laws_markGroupS.l0 kq (xs.drop i) m = some r) ∧ Aside0 (Kd.S k30 30 wr w0.heap.size P0_ (.slice A l0.length c) xs) ∧ Aside0 (Below w0.heap.size w0 wr) ∧ Aside0 (Kept w wr P0_))
 case atStart=>exact ⟨a1,0,l0,rfl,rfl,Nat.zero_le _,⟨rfl⟩,H',HS,HB,HK⟩
 case round =>
  clear H' HS HB HK
  obtain ⟨m,i,xs,rfl,rfl,hi,HL,HA,HS,HB,HK⟩:=hrel
  cases gk with
  | zero=>exact absurd HA.out (by simp [laws_markGroupS.l0])
  | succ k1 =>
   by_cases hlt:i < l0.length
   ·have hltz:(i:Int) < (l0.length:Int):=by omega
    have hix:i < xs.length:=by rw [HL.out];exact hlt
    obtain ⟨g,cap,hv,hg0,hg1,cells,hgc⟩:=Kd.S_form HS.out (by omega)
    obtain ⟨rfl,rfl⟩:A = some ⟨g,0,none⟩ ∧ c = cap:=by injection hv with e1 _ e3;exact ⟨e1,e3⟩
    have HG:=Aside0.mk hgc
    clear hv hg0 hg1 hgc hix
    obtain ⟨oki,cs,hcl,hM,hcc,hfr,hoki,hH⟩:=Kd.S_elem HS.out z30 (i:Int) (by omega) (by omega)
    rw [Int.toNat_natCast] at hM hcc hfr
    have hA:=HA.out
    rw [List.drop_eq_getElem_cons (show i < xs.length by rw [HL.out];exact hlt),show xs[i]'(by rw [HL.out];exact hlt) = xs.getD i z30 by rw [List.getD_eq_getElem?_getD,List.getElem?_eq_getElem (show i < xs.length by rw [HL.out];exact hlt)];rfl] at hA
    obtain ⟨⟨m1,ns⟩,h1,hA⟩:=Option.bind_eq_some_iff.mp hA
    obtain ⟨⟨m2,rs⟩,h2,hA⟩:=Option.bind_eq_some_iff.mp hA
    generalize xs.getD i z30 = q at hM h1 h2
    obtain ⟨v0,v1,rfl,hr0,hr1⟩:=k30_openM hM
    obtain ⟨B0,d0,rfl⟩:=Kd.R_slice hr0
    obtain ⟨B1,d1,rfl⟩:=Kd.R_slice hr1
    have hc0:wr.cell? ⟨g,i * 3,none⟩ = some (.slice B0 q.f0.length d0):=hcc 0 _ rfl
    have hc1:wr.cell? ⟨g,i * 3 + 1,none⟩ = some (.slice B1 q.f1.length d1):=hcc 1 _ rfl
    have hc2:wr.cell? ⟨g,i * 3 + 2,none⟩ = some (.int .i64 q.f2):=hcc 2 _ rfl
    have H1:=Aside0.mk h1
    have H2:=Aside0.mk h2
    have H3:=Aside0.mk hA
    have HOK:=Aside0.mk hoki
    have HH:=Aside0.mk hH
    have HR0:=Aside0.mk hr0
    have HR1:=Aside0.mk hr1
    clear hcl hM hcc hfr hoki hH hA h1 h2 hr0 hr1 HA HS
    go_wp2_with fail
    refine (laws_markStringS.calls k1 (fun k_=>some k_ = (.slice B0 q.f0.length d0:Value).ownBlock) _ q.f0 m m1 ns w0 wr HB.out (Kd.R_tight rfl HR0.out) H1.out).mono ?_
    rintro e w2 ⟨rfl,hn,hb,hk⟩
    have hne0:¬ some g = (.slice B0 q.f0.length d0:Value).ownBlock:=fun e=>(HOK.out g (HR0.out.1 g e.symm)).2 rfl
    have hne1:¬ some g = (.slice B1 q.f1.length d1:Value).ownBlock:=fun e=>(HOK.out g (HR1.out.1 g e.symm)).2 rfl
    have hd1:w2.cell? ⟨g,i * 3 + 1,none⟩ = some (.slice B1 q.f1.length d1):=cell_kept hc1 hk hne0
    have hd2:w2.cell? ⟨g,i * 3 + 2,none⟩ = some (.int .i64 q.f2):=cell_kept hc2 hk hne0
    have HR12:=Aside0.mk (Kd.R_step (Kd.R_tight rfl HR1.out) (fun k_ hk_ hlt_=>hk.2 k_ hlt_ (fun e_=>laws_markGroupS.differ HR0.out HR1.out (by decide) k_ e_ hk_)))
    have HH2:=Aside0.mk (Kd.H_step HH.out (fun k_ _ hn_ hlt_=>hk.2 k_ hlt_ (fun e_=>hn_ (HR0.out.1 k_ e_.symm))))
    have HG2:=Aside0.mk (blk_kept HG.out hk hne0)
    have HN2:=Aside0.mk hn
    have HB2:=Aside0.mk hb
    have HK2:=Aside0.mk (HK.out.then_ hk (fun k_ e_=>.inl (HOK.out k_ (HR0.out.1 k_ e_.symm)).1))
    have HO0:=Aside0.mk HR0.out.1
    have HO1:=Aside0.mk HR1.out.1
    have HN0:=Aside0.mk hne0
    have HN1:=Aside0.mk hne1
    clear hn hb hk hc0 hc1 hc2 HH HB HK HR0 HR1 H1 hne0 hne1 HG
    go_wp2_with fail
    refine (laws_markRuleS.calls k1 (fun k_=>some k_ = (.slice B1 q.f1.length d1:Value).ownBlock) _ q.f1 m1 m2 rs w0 w2 HB2.out HR12.out H2.out).mono ?_
    rintro e w3 ⟨rfl,hn,hb,hk⟩
    have hd3:w3.cell? ⟨g,i * 3 + 2,none⟩ = some (.int .i64 q.f2):=cell_kept hd2 hk HN1.out
    have HN3:=Aside0.mk (Kd.R_step (Kd.R_tight rfl HN2.out) (fun k_ hk_ hlt_=>hk.2 k_ hlt_ (fun e_=>laws_markGroupS.differ HN2.out HR12.out (by decide) k_ hk_ e_)))
    have HH3:=Aside0.mk (Kd.H_step HH2.out (fun k_ _ hn_ hlt_=>hk.2 k_ hlt_ (fun e_=>hn_ (HO1.out k_ e_.symm))))
    have HS3:=Kd.S_seg (okg:=fun _=>False) (okp:=oki) (Kd.H_mono HH3.out (fun _ h_=>⟨h_,id⟩)) (by omega) (by omega) (seg:=[.int .i64 m2]) (j:=2) (show 3 ≤ 3 from Nat.le_refl _) (x':=(⟨ns,rs,m2⟩:S30)) (k30_mkM w3 w0.heap.size oki ⟨ns,rs,m2⟩ (Kd.R_mono HN3.out (fun k_ hk_=>HO0.out k_ hk_.symm)) (Kd.R_mono (Kd.R_tight rfl hn) (fun k_ hk_=>HO1.out k_ hk_.symm))) (fun _ h_=>.inl h_) (fun _ h_=>h_.elim)
    have hg3:=blk_kept HG2.out hk HN1.out
    have hf3:=blk_frozen hg3 (i * 3 + 2)
    obtain ⟨hs3,hg3'⟩:=HS3
    have HS4:=Aside0.mk (show Kd.S k30 30 (w3.setCell ⟨g,i * 3 + 2,none⟩ (.int .i64 m2)) w0.heap.size P0_ (.slice (some ⟨g,0,none⟩) l0.length c) (xs.set i (⟨ns,rs,m2⟩:S30)) from hs3)
    have HB4:=Aside0.mk (show Below w0.heap.size w0 (w3.setCell ⟨g,i * 3 + 2,none⟩ (.int .i64 m2)) from below_set hb (Kd.S_base hs3 g (by simp [Value.ownBlock])))
    have HK4:=Aside0.mk (show Kept w (w3.setCell ⟨g,i * 3 + 2,none⟩ (.int .i64 m2)) P0_ from (HK2.out.then_ hk (fun k_ e_=>.inl (HOK.out k_ (HO1.out k_ e_.symm)).1)).setCell (.inl ((Kd.S_R hs3).1 g (by simp [Value.ownBlock]))) _)
    have HA4:=Aside0.mk (show laws_markGroupS.l0 k1 ((xs.set i (⟨ns,rs,m2⟩:S30)).drop (i + 1)) (wrap64 (m2 + 1)) = some r by rw [List.drop_set_of_lt (by omega)];exact H3.out)
    clear hs3 hg3' hg3 hn hb hk HN3 HH3 HN2 HR12 HH2 HB2 HK2 H2 H3 HOK HO0 HO1 HN0 HN1 HG2 hd1 hd2
    go_wp2
    go_roundg k1
    case measure=>omega
    case rel=>exact ⟨_,i + 1,_,by go_num,by go_num,by omega,⟨by rw [List.length_set];exact HL.out⟩,HA4,HS4,HB4,HK4⟩
   ·have hltz:¬ (i:Int) < (l0.length:Int):=by omega
    obtain rfl:i = l0.length:=by omega
    have hA:=HA.out
    rw [List.drop_of_length_le (by rw [HL.out];exact Nat.le_refl _)] at hA
    obtain rfl:=Option.some.inj hA
    clear HA
    go_wp2
    go_ret
    exact ⟨rfl,HB.out,HK.out⟩

end Go.Proofs.Ytheakfegchndcaa.P
