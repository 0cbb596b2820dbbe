-- Written by a program of this session (patch_print.py over the kit's print; given texts in wip/given).
-- Cut down by a program of this session (wip/tools/prune.py) to what its claim can name.
import Derived.Test.YtheakfegchndcaaPx0
import Derived.Test.YtheakfegchndcaaPx10
namespace Go.Proofs.Ytheakfegchndcaa.P
open Go.RowKit Go.Proofs.YtheakfegchndcaaW.PrintWords Go.Proofs.YtheakfegchndcaaW.PrintLast Go.Proofs.YtheakfegchndcaaW.PrintMore
attribute [local go_sem] max2_int min2_int max_two min_two max_three min_three max_four min_four   -- for this text's walks alone
set_option linter.unusedVariables false
set_option linter.unusedSimpArgs false
set_option maxHeartbeats 8000000
set_option maxRecDepth 100000

/-! ### impl_rulesOk: function 54 -/
def impl_rulesOk.l0:Nat → List (S57) → Int → Int → Option (Bool)
 | 0,_,_,_=>none
 | k + 1,x5,x6,x7=>if x7 < x6 then (if 0 ≤ x7 then (if x7 < (x5.length:Int) then ((impl_RuleOk.f k ((rd_T57 x5 x7).f1)).bind fun t247=>(if t247 = true then (impl_rulesOk.l0 k x5 x6 (wrap64 (x7 + 1))) else (some false))) else (none)) else (none)) else (some true)
def impl_rulesOk.f (k:Nat) (l0:List (S57)):Option (Bool):=impl_rulesOk.l0 k l0 (l0.length:Int) 0
theorem impl_rulesOk.mono_l:∀ k,(∀ y0 y1 y2,LeO (impl_rulesOk.l0 k y0 y1 y2) (impl_rulesOk.l0 (k + 1) y0 y1 y2))
 | 0=>fun _ _ _ r h=>by simp [impl_rulesOk.l0] at h
 | k + 1=>by
  have ih0:=impl_rulesOk.mono_l k
  ·intro y0 y1 y2
   unfold impl_rulesOk.l0
   repeat' first
   | (with_reducible exact ih0 _ _ _)
   | (with_reducible exact impl_RuleOk.mono _ _)
   | (with_reducible exact LeO.refl _)
   | (with_reducible exact LeO.none _)
   | (with_reducible refine LeO.ite ?_ ?_)
   | (with_reducible refine LeO.bind ?_ (fun _=>?_))
   | exact ih0 _ _ _
   | exact impl_RuleOk.mono _ _
   | exact LeO.none _
   | refine LeO.ite ?_ ?_
   | refine LeO.bind ?_ (fun _=>?_)
theorem impl_rulesOk.mono:∀ a0 k,LeO (impl_rulesOk.f k a0) (impl_rulesOk.f (k + 1) a0):=by
 intro a0 k
 have ih0:=impl_rulesOk.mono_l k
 unfold impl_rulesOk.f
 repeat' first
   | (with_reducible exact ih0 _ _ _)
   | (with_reducible exact impl_RuleOk.mono _ _)
   | (with_reducible exact LeO.refl _)
   | (with_reducible exact LeO.none _)
   | (with_reducible refine LeO.ite ?_ ?_)
   | (with_reducible refine LeO.bind ?_ (fun _=>?_))
   | exact ih0 _ _ _
   | exact impl_RuleOk.mono _ _
   | exact LeO.none _
   | refine LeO.ite ?_ ?_
   | refine LeO.bind ?_ (fun _=>?_)
theorem impl_rulesOk.calls (k:Nat) (A0:Option Addr) (c0:Nat) (l0:List (S57)) (r:Bool) (w:World) (hr0:Kd.C k57 w A0 l0.length l0) (hc0:l0.length ≤ c0) (h:impl_rulesOk.f k l0 = some r) :
  Calls Try.prog 54 #[.slice A0 l0.length c0] w fun e w'=>e = .returned (.bool r) ∧ Below w.heap.size w w':=by
 have hu57:=Try.underlying57
 have HR0:=Aside0.mk hr0
 have HC0:=Aside0.mk hc0
 clear hr0 hc0
 have HB:=Aside0.mk (Below.refl w.heap.size w)
 have H:(impl_rulesOk.l0 k l0 (l0.length:Int) 0) = some r:=h
 clear h
 have H':=Aside0.mk H
 clear H
 go_enter Try.func54,Try.ntmps54
 go_wp2
 go_loopg [7] k (fun kq v7 w'=>∃ (x7_1:Int),v7 = .int .i64 x7_1 ∧ Aside0 (impl_rulesOk.l0 kq l0 (l0.length:Int) x7_1 = some r) ∧ Aside0 (kq ≤ k) ∧ Aside0 (Below w.heap.size w w'))
 case atStart=>exact ⟨(0),(by first|rfl|(simp;done)|(simp only [i64_w,i32_w];done)|(simp only [i64_w,i32_w];rfl)|(simp [*];done)|(simp [emp_bne,emp_beq];done)),H',⟨Nat.le_refl _⟩,⟨by repeat (first|(with_reducible first|exact HB.out|apply below_alloc|apply pw_below_drewN|apply below_drew1)|exact HB.out)⟩⟩
 case round =>
  clear H'
  obtain ⟨x7_1,rfl,HA,HK1,HB⟩:=hrel
  cases gk with
  | zero=>exact absurd HA.out (by simp [impl_rulesOk.l0])
  | succ k1 =>
   have H:=HA.out
   clear HA
   simp only [impl_rulesOk.l0] at H
   by_cases c2:x7_1 < (l0.length:Int)
   ·rw [if_pos c2] at H
    have c2b0:decide (x7_1 < (l0.length:Int)) = true:=decide_eq_true c2
    clear c2
    by_cases c3:0 ≤ x7_1
    ·rw [if_pos c3] at H
     have c3b0:decide (0 ≤ x7_1) = true:=decide_eq_true c3
     clear c3
     by_cases c4:x7_1 < (l0.length:Int)
     ·rw [if_pos c4] at H
      have c4b0:decide (x7_1 < (l0.length:Int)) = true:=decide_eq_true c4
      clear c4
      replace H:=Option.bind_eq_some_iff.mp H
      obtain ⟨t247,A50,H⟩:=H
      replace H:(if t247 = true then (impl_rulesOk.l0 k1 l0 (l0.length:Int) (wrap64 (x7_1 + 1))) else (some false)) = some r:=H
      have A5:=Aside0.mk A50
      clear A50
      by_cases c6:t247 = true
      ·subst c6
       have H1:(impl_rulesOk.l0 k1 l0 (l0.length:Int) (wrap64 (x7_1 + 1))) = some r:=by rw [if_pos rfl] at H;exact H
       clear H
       have H:=H1
       clear H1
       have H':=Aside0.mk H
       clear H
       have p245:0 ≤ (x7_1:Int):=of_decide_eq_true (by first|(with_reducible assumption)|assumption)
       have q245:x7_1 < (l0.length:Int):=of_decide_eq_true (by first|(with_reducible assumption)|assumption)
       obtain ⟨ad245,e245,hx245_0,hx245_1⟩:=at_T57 HR0.out x7_1 p245 q245
       cases e245
       replace hx245_0:=(HB.out.cell (World.block_lt_of_cell? w _ hx245_0)).trans hx245_0
       replace hx245_1:=(HB.out.cell (World.block_lt_of_cell? w _ hx245_1)).trans hx245_1
       replace p245:=eq_true p245
       replace q245:=eq_true q245
       go_wp2_with (first|((with_reducible refine gate_dst (N:=4) rfl ?_);refine box_event ?hg (N:=4) ?hd (cs:=#[.bool false, .string (⟨#[]⟩:ByteArray)]) (t:=57) ?hr ?_;(case hd=>rfl);(case hg=>rfl);(case hr=>first|(go_simp;done)|(go_simp;rfl));intro gb246 hg w7 hbox hb;have n0_:=Aside0.mk (below_step (by repeat (first|(with_reducible first|exact HB.out|apply below_alloc|apply pw_below_drewN|apply below_drew1)|exact HB.out)) hb);have n1_:=Aside0.mk (hbox);have n2_:=Aside0.mk ((by rw [hg];exact (below_size (by repeat (first|(with_reducible first|exact HB.out|apply below_alloc|apply pw_below_drewN|apply below_drew1)|exact HB.out))):w.heap.size ≤ gb246));have n3_:=n2_;clear HB;have HB:=n0_;have BK246:=n1_;have GW246:=n2_;have GE246:=n3_;clear n0_ n1_ n2_ n3_;clear hb hbox hg;have hcz8_0:w7.cell? ⟨gb246,0,none⟩ = some (.bool false):=(blk_cell BK246.out 0).trans rfl;have hcz8_1:w7.cell? ⟨gb246,1,none⟩ = some (.string (⟨#[]⟩:ByteArray)):=(blk_cell BK246.out 1).trans rfl;have hfz8_0:=blk_frozen BK246.out 0;have hfz8_1:=blk_frozen BK246.out 1)|((with_reducible refine gate_callee (f:=64) rfl ?_);refine goesL_ (some 13) rfl rfl Try.func64 (by kernel_rfl) rfl #[.string ((rd_T57 l0 x7_1).f1)] rfl (by (try simp only [List.map_toArray,List.map_cons,List.map_nil]);first|done|rfl|(simp only [List.length_drop,List.length_take];rfl)) ?_;(with_reducible refine (impl_RuleOk.calls k1 ((rd_T57 l0 x7_1).f1) true _ A5.out).mono ?_);rintro e w' ⟨rfl,⟨nd,rfl⟩⟩;refine ⟨_,rfl,?_⟩))
       go_roundg k1
       case measure=>have:=HK1.out;omega
       case rel=>exact ⟨(wrap64 (x7_1 + 1)),(by first|rfl|(simp;done)|(simp only [i64_w,i32_w];done)|(simp only [i64_w,i32_w];rfl)|(simp [*];done)|(simp [emp_bne,emp_beq];done)),H',⟨by have:=HK1.out;omega⟩,⟨by repeat (first|(with_reducible first|exact HB.out|apply below_alloc|apply pw_below_drewN|apply below_drew1|refine below_set ?_ GE246.out)|exact HB.out)⟩⟩
      ·replace c6:=Bool.eq_false_iff.mpr c6
       subst c6
       have H1:(some false) = some r:=by rw [if_neg (show ¬ (false = true) by decide)] at H;exact H
       clear H
       have H:=H1
       clear H1
       obtain rfl:=Option.some.inj H
       have p245:0 ≤ (x7_1:Int):=of_decide_eq_true (by first|(with_reducible assumption)|assumption)
       have q245:x7_1 < (l0.length:Int):=of_decide_eq_true (by first|(with_reducible assumption)|assumption)
       obtain ⟨ad245,e245,hx245_0,hx245_1⟩:=at_T57 HR0.out x7_1 p245 q245
       cases e245
       replace hx245_0:=(HB.out.cell (World.block_lt_of_cell? w _ hx245_0)).trans hx245_0
       replace hx245_1:=(HB.out.cell (World.block_lt_of_cell? w _ hx245_1)).trans hx245_1
       replace p245:=eq_true p245
       replace q245:=eq_true q245
       go_wp2_with (first|((with_reducible refine gate_dst (N:=4) rfl ?_);refine box_event ?hg (N:=4) ?hd (cs:=#[.bool false, .string (⟨#[]⟩:ByteArray)]) (t:=57) ?hr ?_;(case hd=>rfl);(case hg=>rfl);(case hr=>first|(go_simp;done)|(go_simp;rfl));intro gb246 hg w9 hbox hb;have n0_:=Aside0.mk (below_step (by repeat (first|(with_reducible first|exact HB.out|apply below_alloc|apply pw_below_drewN|apply below_drew1)|exact HB.out)) hb);have n1_:=Aside0.mk (hbox);have n2_:=Aside0.mk ((by rw [hg];exact (below_size (by repeat (first|(with_reducible first|exact HB.out|apply below_alloc|apply pw_below_drewN|apply below_drew1)|exact HB.out))):w.heap.size ≤ gb246));have n3_:=n2_;clear HB;have HB:=n0_;have BK246:=n1_;have GW246:=n2_;have GE246:=n3_;clear n0_ n1_ n2_ n3_;clear hb hbox hg;have hcz10_0:w9.cell? ⟨gb246,0,none⟩ = some (.bool false):=(blk_cell BK246.out 0).trans rfl;have hcz10_1:w9.cell? ⟨gb246,1,none⟩ = some (.string (⟨#[]⟩:ByteArray)):=(blk_cell BK246.out 1).trans rfl;have hfz10_0:=blk_frozen BK246.out 0;have hfz10_1:=blk_frozen BK246.out 1)|((with_reducible refine gate_callee (f:=64) rfl ?_);refine goesL_ (some 13) rfl rfl Try.func64 (by kernel_rfl) rfl #[.string ((rd_T57 l0 x7_1).f1)] rfl (by (try simp only [List.map_toArray,List.map_cons,List.map_nil]);first|done|rfl|(simp only [List.length_drop,List.length_take];rfl)) ?_;(with_reducible refine (impl_RuleOk.calls k1 ((rd_T57 l0 x7_1).f1) false _ A5.out).mono ?_);rintro e w' ⟨rfl,⟨nd,rfl⟩⟩;refine ⟨_,rfl,?_⟩))
       go_ret
       exact ⟨by first|rfl|(simp <;> rfl)|(simp [*] <;> rfl),by repeat (first|(with_reducible first|exact HB.out|apply below_alloc|apply pw_below_drewN|apply below_drew1|refine below_set ?_ GE246.out)|exact HB.out)⟩
     ·rw [if_neg c4] at H
      exact absurd H (by simp)
    ·rw [if_neg c3] at H
     exact absurd H (by simp)
   ·rw [if_neg c2] at H
    have c2b0:decide (x7_1 < (l0.length:Int)) = false:=decide_eq_false c2
    clear c2
    obtain rfl:=Option.some.inj H
    go_wp2
    go_ret
    exact ⟨by first|rfl|(simp <;> rfl)|(simp [*] <;> rfl),by repeat (first|(with_reducible first|exact HB.out|apply below_alloc|apply pw_below_drewN|apply below_drew1)|exact HB.out)⟩

/-! ### impl_groupOk: function 37 -/
mutual
def impl_groupOk.j0:Nat → Bool → List ByteArray → List (S57) → Int → Option (Bool)
 | 0,_,_,_,_=>none
 | k + 1,x24,x249000,x249001,x249002=>if x24 = true then (some false) else (if (x249001.length:Int) = 0 then (impl_groupOk.j1 k (x249002 == 0) x249000 x249001 x249002) else (impl_groupOk.j1 k false x249000 x249001 x249002))
def impl_groupOk.j1:Nat → Bool → List ByteArray → List (S57) → Int → Option (Bool)
 | 0,_,_,_,_=>none
 | k + 1,x33,x249000,x249001,x249002=>if x33 = true then (some false) else (impl_groupOk.l0 k x249000 (x249000.length:Int) 0 x249000 x249001 x249002)
def impl_groupOk.l0:Nat → List ByteArray → Int → Int → List ByteArray → List (S57) → Int → Option (Bool)
 | 0,_,_,_,_,_,_=>none
 | k + 1,x35,x36,x37,x249000,x249001,x249002=>if x37 < x36 then (if 0 ≤ x37 then (if x37 < (x35.length:Int) then ((impl_isGroupName.f k (rdOf ByteArray.empty x35 x37)).bind fun t250=>(if t250 = true then (impl_groupOk.l0 k x35 x36 (wrap64 (x37 + 1)) x249000 x249001 x249002) else (some false))) else (none)) else (none)) else ((impl_rulesOk.f k x249001).bind fun t251=>(some t251))
end
def impl_groupOk.f (k:Nat) (l0_0:List ByteArray) (l0_1:List (S57)) (a0_2:Int):Option (Bool):=if (l0_0.length:Int) = 0 then (impl_groupOk.j0 k true l0_0 l0_1 a0_2) else (if (l0_1.length:Int) > 6 then (impl_groupOk.j0 k true l0_0 l0_1 a0_2) else (if a0_2 < 0 then (impl_groupOk.j0 k true l0_0 l0_1 a0_2) else (impl_groupOk.j0 k (decide (a0_2 > 20)) l0_0 l0_1 a0_2)))
theorem impl_groupOk.mono_l:∀ k,(∀ y0 y1 y2 y3,LeO (impl_groupOk.j0 k y0 y1 y2 y3) (impl_groupOk.j0 (k + 1) y0 y1 y2 y3)) ∧ (∀ y0 y1 y2 y3,LeO (impl_groupOk.j1 k y0 y1 y2 y3) (impl_groupOk.j1 (k + 1) y0 y1 y2 y3)) ∧ (∀ y0 y1 y2 y3 y4 y5,LeO (impl_groupOk.l0 k y0 y1 y2 y3 y4 y5) (impl_groupOk.l0 (k + 1) y0 y1 y2 y3 y4 y5))
 | 0=>⟨fun _ _ _ _ r h=>by simp [impl_groupOk.j0] at h,fun _ _ _ _ r h=>by simp [impl_groupOk.j1] at h,fun _ _ _ _ _ _ r h=>by simp [impl_groupOk.l0] at h⟩
 | k + 1=>by
  obtain ⟨ih0,ih1,ih2⟩:=impl_groupOk.mono_l k
  refine ⟨?_,?_,?_⟩
  ·intro y0 y1 y2 y3
   unfold impl_groupOk.j0
   repeat' first
   | (with_reducible exact ih0 _ _ _ _)
   | (with_reducible exact ih1 _ _ _ _)
   | (with_reducible exact ih2 _ _ _ _ _ _)
   | (with_reducible exact impl_isGroupName.mono _ _)
   | (with_reducible exact impl_rulesOk.mono _ _)
   | (with_reducible exact LeO.refl _)
   | (with_reducible exact LeO.none _)
   | (with_reducible refine LeO.ite ?_ ?_)
   | (with_reducible refine LeO.bind ?_ (fun _=>?_))
   | exact ih0 _ _ _ _
   | exact ih1 _ _ _ _
   | exact ih2 _ _ _ _ _ _
   | exact impl_isGroupName.mono _ _
   | exact impl_rulesOk.mono _ _
   | exact LeO.none _
   | refine LeO.ite ?_ ?_
   | refine LeO.bind ?_ (fun _=>?_)
  ·intro y0 y1 y2 y3
   unfold impl_groupOk.j1
   repeat' first
   | (with_reducible exact ih0 _ _ _ _)
   | (with_reducible exact ih1 _ _ _ _)
   | (with_reducible exact ih2 _ _ _ _ _ _)
   | (with_reducible exact impl_isGroupName.mono _ _)
   | (with_reducible exact impl_rulesOk.mono _ _)
   | (with_reducible exact LeO.refl _)
   | (with_reducible exact LeO.none _)
   | (with_reducible refine LeO.ite ?_ ?_)
   | (with_reducible refine LeO.bind ?_ (fun _=>?_))
   | exact ih0 _ _ _ _
   | exact ih1 _ _ _ _
   | exact ih2 _ _ _ _ _ _
   | exact impl_isGroupName.mono _ _
   | exact impl_rulesOk.mono _ _
   | exact LeO.none _
   | refine LeO.ite ?_ ?_
   | refine LeO.bind ?_ (fun _=>?_)
  ·intro y0 y1 y2 y3 y4 y5
   unfold impl_groupOk.l0
   repeat' first
   | (with_reducible exact ih0 _ _ _ _)
   | (with_reducible exact ih1 _ _ _ _)
   | (with_reducible exact ih2 _ _ _ _ _ _)
   | (with_reducible exact impl_isGroupName.mono _ _)
   | (with_reducible exact impl_rulesOk.mono _ _)
   | (with_reducible exact LeO.refl _)
   | (with_reducible exact LeO.none _)
   | (with_reducible refine LeO.ite ?_ ?_)
   | (with_reducible refine LeO.bind ?_ (fun _=>?_))
   | exact ih0 _ _ _ _
   | exact ih1 _ _ _ _
   | exact ih2 _ _ _ _ _ _
   | exact impl_isGroupName.mono _ _
   | exact impl_rulesOk.mono _ _
   | exact LeO.none _
   | refine LeO.ite ?_ ?_
   | refine LeO.bind ?_ (fun _=>?_)
theorem impl_groupOk.mono:∀ a0 a1 a2 k,LeO (impl_groupOk.f k a0 a1 a2) (impl_groupOk.f (k + 1) a0 a1 a2):=by
 intro a0 a1 a2 k
 obtain ⟨ih0,ih1,ih2⟩:=impl_groupOk.mono_l k
 unfold impl_groupOk.f
 repeat' first
   | (with_reducible exact ih0 _ _ _ _)
   | (with_reducible exact ih1 _ _ _ _)
   | (with_reducible exact ih2 _ _ _ _ _ _)
   | (with_reducible exact impl_isGroupName.mono _ _)
   | (with_reducible exact impl_rulesOk.mono _ _)
   | (with_reducible exact LeO.refl _)
   | (with_reducible exact LeO.none _)
   | (with_reducible refine LeO.ite ?_ ?_)
   | (with_reducible refine LeO.bind ?_ (fun _=>?_))
   | exact ih0 _ _ _ _
   | exact ih1 _ _ _ _
   | exact ih2 _ _ _ _ _ _
   | exact impl_isGroupName.mono _ _
   | exact impl_rulesOk.mono _ _
   | exact LeO.none _
   | refine LeO.ite ?_ ?_
   | refine LeO.bind ?_ (fun _=>?_)
theorem impl_groupOk.calls (k:Nat) (A0_0:Option Addr) (c0_0:Nat) (l0_0:List ByteArray) (A0_1:Option Addr) (c0_1:Nat) (l0_1:List (S57)) (a0_2:Int) (r:Bool) (w:World) (hr0_0:Kd.C Kd.string w A0_0 l0_0.length l0_0) (hc0_0:l0_0.length ≤ c0_0) (hr0_1:Kd.C k57 w A0_1 l0_1.length l0_1) (hc0_1:l0_1.length ≤ c0_1) (h:impl_groupOk.f k l0_0 l0_1 a0_2 = some r) :
  Calls Try.prog 37 #[.agg #[.slice A0_0 l0_0.length c0_0, .slice A0_1 l0_1.length c0_1, .int .i64 a0_2]] w fun e w'=>e = .returned (.bool r) ∧ Below w.heap.size w w':=by
 have hu30:=Try.underlying30
 have HR0_0:=Aside0.mk hr0_0
 have HC0_0:=Aside0.mk hc0_0
 clear hr0_0 hc0_0
 have HR0_1:=Aside0.mk hr0_1
 have HC0_1:=Aside0.mk hc0_1
 clear hr0_1 hc0_1
 have HB:=Aside0.mk (Below.refl w.heap.size w)
 have H:(if (l0_0.length:Int) = 0 then (impl_groupOk.j0 k true l0_0 l0_1 a0_2) else (if (l0_1.length:Int) > 6 then (impl_groupOk.j0 k true l0_0 l0_1 a0_2) else (if a0_2 < 0 then (impl_groupOk.j0 k true l0_0 l0_1 a0_2) else (impl_groupOk.j0 k (decide (a0_2 > 20)) l0_0 l0_1 a0_2)))) = some r:=h
 clear h
 have HC2:=Aside0.mk H
 clear H
 go_enter Try.func37,Try.ntmps37
 go_upto_region 1 with (first|((with_reducible refine gate_dst (N:=1) rfl ?_);(try (refine gate_guard (by rfl) ?_;dsimp only));refine box_event ?hg (N:=1) ?hd (cs:=#[.slice A0_0 l0_0.length c0_0, .slice A0_1 l0_1.length c0_1, .int .i64 a0_2]) (t:=30) ?hr ?_;(case hd=>rfl);(case hg=>rfl);(case hr=>first|(go_simp;done)|(go_simp;rfl));intro gb248 hg w3 hbox hb;have n0_:=Aside0.mk (below_step (by repeat (first|(with_reducible first|exact HB.out|apply below_alloc|apply pw_below_drewN|apply below_drew1)|exact HB.out)) hb);have n1_:=Aside0.mk (hbox);have n2_:=Aside0.mk ((by rw [hg];exact (below_size (by repeat (first|(with_reducible first|exact HB.out|apply below_alloc|apply pw_below_drewN|apply below_drew1)|exact HB.out))):w.heap.size ≤ gb248));have n3_:=n2_;clear HB;have HB:=n0_;have BK248:=n1_;have GW248:=n2_;have GE248:=n3_;clear n0_ n1_ n2_ n3_;clear hb hbox hg))
 (try simp only [Act.put,List.setIfInBounds_toArray,List.set_cons_zero,List.set_cons_succ])
 go_cut [24] (fun v24 wc=>∃ (kq:Nat) (x24_1:Bool),v24 = .bool x24_1 ∧ Aside0 (impl_groupOk.j0 kq x24_1 l0_0 l0_1 a0_2 = some r) ∧ Aside0 (kq ≤ k) ∧ Aside0 (wc.heap[gb248]? = some (.cells #[(.slice A0_0 l0_0.length c0_0),(.slice A0_1 l0_1.length c0_1), .int .i64 a0_2] 30 (0,0))) ∧ Aside0 (Below w.heap.size w wc))
 case first =>
  have H:=HC2.out
  clear HC2
  by_cases c4:(l0_0.length:Int) = 0
  ·rw [if_pos c4] at H
   have c4b0:((l0_0.length:Int) == 0) = true:=beq_iff_eq.mpr c4
   have c4b1:((l0_0.length:Int) != 0) = false:=bne_eq_false_iff_eq.mpr c4
   clear c4
   (first|rw [c4b0]|(simp only [i64_w,i32_w];rw [c4b0])|skip)
   have H':=Aside0.mk H
   clear H
   have hcz5_0:w3.cell? ⟨gb248,0,none⟩ = some (.slice A0_0 l0_0.length c0_0):=(blk_cell BK248.out 0).trans rfl
   have hcz5_1:w3.cell? ⟨gb248,1,none⟩ = some (.slice A0_1 l0_1.length c0_1):=(blk_cell BK248.out 1).trans rfl
   have hcz5_2:w3.cell? ⟨gb248,2,none⟩ = some (.int .i64 a0_2):=(blk_cell BK248.out 2).trans rfl
   have hfz5_0:=blk_frozen BK248.out 0
   have hfz5_1:=blk_frozen BK248.out 1
   have hfz5_2:=blk_frozen BK248.out 2
   go_wp2
   go_meet
   case rel=>exact ⟨_,(true),(by first|rfl|(simp;done)|(simp only [i64_w,i32_w];done)|(simp only [i64_w,i32_w];rfl)|(simp [*];done)|(simp [emp_bne,emp_beq];done)),H',⟨by first|omega|exact Nat.le_refl _⟩,⟨by (with_reducible repeat (first|refine blk_drewN ?_ _|refine blk_drew ?_|refine blk_alloc ?_ _));exact BK248.out⟩,⟨by repeat (first|(with_reducible first|exact HB.out|apply below_alloc|apply pw_below_drewN|apply below_drew1|refine below_set ?_ GE248.out)|exact HB.out)⟩⟩
  ·rw [if_neg c4] at H
   have c4b0:((l0_0.length:Int) == 0) = false:=beq_eq_false_iff_ne.mpr c4
   have c4b1:((l0_0.length:Int) != 0) = true:=bne_iff_ne.mpr c4
   have c4b2:¬ (l0_0 = []):=fun h_=>c4 (by rw [h_];rfl)
   (first|rw [c4b0]|(simp only [i64_w,i32_w];rw [c4b0])|skip)
   by_cases c6:(l0_1.length:Int) > 6
   ·rw [if_pos c6] at H
    have c6b0:decide (6 < (l0_1.length:Int)) = true:=decide_eq_true c6
    have c6b1:decide (6 < l0_1.length) = true:=decide_eq_true (by omega)
    clear c6
    have H':=Aside0.mk H
    clear H
    have hcz7_0:w3.cell? ⟨gb248,0,none⟩ = some (.slice A0_0 l0_0.length c0_0):=(blk_cell BK248.out 0).trans rfl
    have hcz7_1:w3.cell? ⟨gb248,1,none⟩ = some (.slice A0_1 l0_1.length c0_1):=(blk_cell BK248.out 1).trans rfl
    have hcz7_2:w3.cell? ⟨gb248,2,none⟩ = some (.int .i64 a0_2):=(blk_cell BK248.out 2).trans rfl
    have hfz7_0:=blk_frozen BK248.out 0
    have hfz7_1:=blk_frozen BK248.out 1
    have hfz7_2:=blk_frozen BK248.out 2
    go_wp2
    go_meet
    case rel=>exact ⟨_,(true),(by first|rfl|(simp;done)|(simp only [i64_w,i32_w];done)|(simp only [i64_w,i32_w];rfl)|(simp [*];done)|(simp [emp_bne,emp_beq];done)),H',⟨by first|omega|exact Nat.le_refl _⟩,⟨by (with_reducible repeat (first|refine blk_drewN ?_ _|refine blk_drew ?_|refine blk_alloc ?_ _));exact BK248.out⟩,⟨by repeat (first|(with_reducible first|exact HB.out|apply below_alloc|apply pw_below_drewN|apply below_drew1|refine below_set ?_ GE248.out)|exact HB.out)⟩⟩
   ·rw [if_neg c6] at H
    have c6b0:decide (6 < (l0_1.length:Int)) = false:=decide_eq_false c6
    have c6b1:decide (6 < l0_1.length) = false:=decide_eq_false (by omega)
    clear c6
    by_cases c8:a0_2 < 0
    ·rw [if_pos c8] at H
     have c8b0:decide (a0_2 < 0) = true:=decide_eq_true c8
     clear c8
     have H':=Aside0.mk H
     clear H
     have hcz9_0:w3.cell? ⟨gb248,0,none⟩ = some (.slice A0_0 l0_0.length c0_0):=(blk_cell BK248.out 0).trans rfl
     have hcz9_1:w3.cell? ⟨gb248,1,none⟩ = some (.slice A0_1 l0_1.length c0_1):=(blk_cell BK248.out 1).trans rfl
     have hcz9_2:w3.cell? ⟨gb248,2,none⟩ = some (.int .i64 a0_2):=(blk_cell BK248.out 2).trans rfl
     have hfz9_0:=blk_frozen BK248.out 0
     have hfz9_1:=blk_frozen BK248.out 1
     have hfz9_2:=blk_frozen BK248.out 2
     go_wp2
     go_meet
     case rel=>exact ⟨_,(true),(by first|rfl|(simp;done)|(simp only [i64_w,i32_w];done)|(simp only [i64_w,i32_w];rfl)|(simp [*];done)|(simp [emp_bne,emp_beq];done)),H',⟨by first|omega|exact Nat.le_refl _⟩,⟨by (with_reducible repeat (first|refine blk_drewN ?_ _|refine blk_drew ?_|refine blk_alloc ?_ _));exact BK248.out⟩,⟨by repeat (first|(with_reducible first|exact HB.out|apply below_alloc|apply pw_below_drewN|apply below_drew1|refine below_set ?_ GE248.out)|exact HB.out)⟩⟩
    ·rw [if_neg c8] at H
     have c8b0:decide (a0_2 < 0) = false:=decide_eq_false c8
     clear c8
     have H':=Aside0.mk H
     clear H
     have hcz10_0:w3.cell? ⟨gb248,0,none⟩ = some (.slice A0_0 l0_0.length c0_0):=(blk_cell BK248.out 0).trans rfl
     have hcz10_1:w3.cell? ⟨gb248,1,none⟩ = some (.slice A0_1 l0_1.length c0_1):=(blk_cell BK248.out 1).trans rfl
     have hcz10_2:w3.cell? ⟨gb248,2,none⟩ = some (.int .i64 a0_2):=(blk_cell BK248.out 2).trans rfl
     have hfz10_0:=blk_frozen BK248.out 0
     have hfz10_1:=blk_frozen BK248.out 1
     have hfz10_2:=blk_frozen BK248.out 2
     go_wp2
     go_meet
     case rel=>exact ⟨_,(decide (a0_2 > 20)),(by first|rfl|(simp;done)|(simp only [i64_w,i32_w];done)|(simp only [i64_w,i32_w];rfl)|(simp [*];done)|(simp [emp_bne,emp_beq];done)),H',⟨by first|omega|exact Nat.le_refl _⟩,⟨by (with_reducible repeat (first|refine blk_drewN ?_ _|refine blk_drew ?_|refine blk_alloc ?_ _));exact BK248.out⟩,⟨by repeat (first|(with_reducible first|exact HB.out|apply below_alloc|apply pw_below_drewN|apply below_drew1|refine below_set ?_ GE248.out)|exact HB.out)⟩⟩
 case rest =>
  clear HC2
  try clear p2
  try clear c3
  try clear c4
  try clear c4b0
  try clear c4b1
  try clear c4b2
  try clear c6
  try clear c6b0
  try clear c6b1
  try clear c8
  try clear c8b0
  try clear hcz10_0
  try clear hcz10_1
  try clear hcz10_2
  try clear hcz5_0
  try clear hcz5_1
  try clear hcz5_2
  try clear hcz7_0
  try clear hcz7_1
  try clear hcz7_2
  try clear hcz9_0
  try clear hcz9_1
  try clear hcz9_2
  try clear hfz10_0
  try clear hfz10_1
  try clear hfz10_2
  try clear hfz5_0
  try clear hfz5_1
  try clear hfz5_2
  try clear hfz7_0
  try clear hfz7_1
  try clear hfz7_2
  try clear hfz9_0
  try clear hfz9_1
  try clear hfz9_2
  obtain ⟨kq,x24_1,rfl,HA,HJ1,BK248,HB⟩:=hcut
  cases kq with
  | zero=>exact absurd HA.out (by simp [impl_groupOk.j0])
  | succ kj1 =>
   have H:=HA.out
   clear HA
   simp only [impl_groupOk.j0] at H
   by_cases c11:x24_1 = true
   ·subst c11
    have H1:(some false) = some r:=by rw [if_pos rfl] at H;exact H
    clear H
    have H:=H1
    clear H1
    obtain rfl:=Option.some.inj H
    go_wp2
    go_ret
    exact ⟨by first|rfl|(simp <;> rfl)|(simp [*] <;> rfl),by repeat (first|(with_reducible first|exact HB.out|apply below_alloc|apply pw_below_drewN|apply below_drew1|refine below_set ?_ GE248.out)|exact HB.out)⟩
   ·replace c11:=Bool.eq_false_iff.mpr c11
    subst c11
    have H1:(if (l0_1.length:Int) = 0 then (impl_groupOk.j1 kj1 (a0_2 == 0) l0_0 l0_1 a0_2) else (impl_groupOk.j1 kj1 false l0_0 l0_1 a0_2)) = some r:=by rw [if_neg (show ¬ (false = true) by decide)] at H;exact H
    clear H
    have H:=H1
    clear H1
    have HC12:=Aside0.mk H
    clear H
    go_upto_region 3 with (fail)
    go_cut [33] (fun v33 wc=>∃ (kq:Nat) (x33_11:Bool),v33 = .bool x33_11 ∧ Aside0 (impl_groupOk.j1 kq x33_11 l0_0 l0_1 a0_2 = some r) ∧ Aside0 (kq ≤ kj1) ∧ Aside0 (wc.heap[gb248]? = some (.cells #[(.slice A0_0 l0_0.length c0_0),(.slice A0_1 l0_1.length c0_1), .int .i64 a0_2] 30 (0,0))) ∧ Aside0 (Below w.heap.size w wc))
    case first =>
     have H:=HC12.out
     clear HC12
     by_cases c13:(l0_1.length:Int) = 0
     ·rw [if_pos c13] at H
      have c13b0:((l0_1.length:Int) == 0) = true:=beq_iff_eq.mpr c13
      have c13b1:((l0_1.length:Int) != 0) = false:=bne_eq_false_iff_eq.mpr c13
      clear c13
      (first|rw [c13b0]|(simp only [i64_w,i32_w];rw [c13b0])|skip)
      have H':=Aside0.mk H
      clear H
      have hcz14_0:wc.cell? ⟨gb248,0,none⟩ = some (.slice A0_0 l0_0.length c0_0):=(blk_cell BK248.out 0).trans rfl
      have hcz14_1:wc.cell? ⟨gb248,1,none⟩ = some (.slice A0_1 l0_1.length c0_1):=(blk_cell BK248.out 1).trans rfl
      have hcz14_2:wc.cell? ⟨gb248,2,none⟩ = some (.int .i64 a0_2):=(blk_cell BK248.out 2).trans rfl
      have hfz14_0:=blk_frozen BK248.out 0
      have hfz14_1:=blk_frozen BK248.out 1
      have hfz14_2:=blk_frozen BK248.out 2
      go_wp2
      go_meet
      case rel=>exact ⟨_,((a0_2 == 0)),(by first|rfl|(simp;done)|(simp only [i64_w,i32_w];done)|(simp only [i64_w,i32_w];rfl)|(simp [*];done)|(simp [emp_bne,emp_beq];done)),H',⟨by have:=HJ1.out;first|omega|exact Nat.le_refl _⟩,⟨by (with_reducible repeat (first|refine blk_drewN ?_ _|refine blk_drew ?_|refine blk_alloc ?_ _));exact BK248.out⟩,⟨by repeat (first|(with_reducible first|exact HB.out|apply below_alloc|apply pw_below_drewN|apply below_drew1|refine below_set ?_ GE248.out)|exact HB.out)⟩⟩
     ·rw [if_neg c13] at H
      have c13b0:((l0_1.length:Int) == 0) = false:=beq_eq_false_iff_ne.mpr c13
      have c13b1:((l0_1.length:Int) != 0) = true:=bne_iff_ne.mpr c13
      have c13b2:¬ (l0_1 = []):=fun h_=>c13 (by rw [h_];rfl)
      (first|rw [c13b0]|(simp only [i64_w,i32_w];rw [c13b0])|skip)
      have H':=Aside0.mk H
      clear H
      have hcz15_0:wc.cell? ⟨gb248,0,none⟩ = some (.slice A0_0 l0_0.length c0_0):=(blk_cell BK248.out 0).trans rfl
      have hcz15_1:wc.cell? ⟨gb248,1,none⟩ = some (.slice A0_1 l0_1.length c0_1):=(blk_cell BK248.out 1).trans rfl
      have hcz15_2:wc.cell? ⟨gb248,2,none⟩ = some (.int .i64 a0_2):=(blk_cell BK248.out 2).trans rfl
      have hfz15_0:=blk_frozen BK248.out 0
      have hfz15_1:=blk_frozen BK248.out 1
      have hfz15_2:=blk_frozen BK248.out 2
      go_wp2
      go_meet
      case rel=>exact ⟨_,(false),(by first|rfl|(simp;done)|(simp only [i64_w,i32_w];done)|(simp only [i64_w,i32_w];rfl)|(simp [*];done)|(simp [emp_bne,emp_beq];done)),H',⟨by have:=HJ1.out;first|omega|exact Nat.le_refl _⟩,⟨by (with_reducible repeat (first|refine blk_drewN ?_ _|refine blk_drew ?_|refine blk_alloc ?_ _));exact BK248.out⟩,⟨by repeat (first|(with_reducible first|exact HB.out|apply below_alloc|apply pw_below_drewN|apply below_drew1|refine below_set ?_ GE248.out)|exact HB.out)⟩⟩
    case rest =>
     clear HC12
     try clear c1
     try clear p2
     try clear c3
     try clear c4
     try clear c4b0
     try clear c4b1
     try clear c4b2
     try clear c6
     try clear c6b0
     try clear c6b1
     try clear c8
     try clear c8b0
     try clear c11
     try clear c13
     try clear c13b0
     try clear c13b1
     try clear c13b2
     try clear hcz10_0
     try clear hcz10_1
     try clear hcz10_2
     try clear hcz14_0
     try clear hcz14_1
     try clear hcz14_2
     try clear hcz15_0
     try clear hcz15_1
     try clear hcz15_2
     try clear hcz5_0
     try clear hcz5_1
     try clear hcz5_2
     try clear hcz7_0
     try clear hcz7_1
     try clear hcz7_2
     try clear hcz9_0
     try clear hcz9_1
     try clear hcz9_2
     try clear hfz10_0
     try clear hfz10_1
     try clear hfz10_2
     try clear hfz14_0
     try clear hfz14_1
     try clear hfz14_2
     try clear hfz15_0
     try clear hfz15_1
     try clear hfz15_2
     try clear hfz5_0
     try clear hfz5_1
     try clear hfz5_2
     try clear hfz7_0
     try clear hfz7_1
     try clear hfz7_2
     try clear hfz9_0
     try clear hfz9_1
     try clear hfz9_2
     try clear p2
     obtain ⟨kq,x33_11,rfl,HA,HJ11,BK248,HB⟩:=hcut
     cases kq with
     | zero=>exact absurd HA.out (by simp [impl_groupOk.j1])
     | succ kj11 =>
      have H:=HA.out
      clear HA
      simp only [impl_groupOk.j1] at H
      by_cases c16:x33_11 = true
      ·subst c16
       have H1:(some false) = some r:=by rw [if_pos rfl] at H;exact H
       clear H
       have H:=H1
       clear H1
       obtain rfl:=Option.some.inj H
       go_wp2
       go_ret
       exact ⟨by first|rfl|(simp <;> rfl)|(simp [*] <;> rfl),by repeat (first|(with_reducible first|exact HB.out|apply below_alloc|apply pw_below_drewN|apply below_drew1|refine below_set ?_ GE248.out)|exact HB.out)⟩
      ·replace c16:=Bool.eq_false_iff.mpr c16
       subst c16
       have H1:(impl_groupOk.l0 kj11 l0_0 (l0_0.length:Int) 0 l0_0 l0_1 a0_2) = some r:=by rw [if_neg (show ¬ (false = true) by decide)] at H;exact H
       clear H
       have H:=H1
       clear H1
       have H':=Aside0.mk H
       clear H
       have hcz17_0:wc.cell? ⟨gb248,0,none⟩ = some (.slice A0_0 l0_0.length c0_0):=(blk_cell BK248.out 0).trans rfl
       have hcz17_1:wc.cell? ⟨gb248,1,none⟩ = some (.slice A0_1 l0_1.length c0_1):=(blk_cell BK248.out 1).trans rfl
       have hcz17_2:wc.cell? ⟨gb248,2,none⟩ = some (.int .i64 a0_2):=(blk_cell BK248.out 2).trans rfl
       have hfz17_0:=blk_frozen BK248.out 0
       have hfz17_1:=blk_frozen BK248.out 1
       have hfz17_2:=blk_frozen BK248.out 2
       go_wp2
       go_loopg [37] kj11 (fun kq v37 w'=>∃ (x37_3:Int),v37 = .int .i64 x37_3 ∧ Aside0 (impl_groupOk.l0 kq l0_0 (l0_0.length:Int) x37_3 l0_0 l0_1 a0_2 = some r) ∧ Aside0 (kq ≤ kj11) ∧ Aside0 (w'.heap[gb248]? = some (.cells #[(.slice A0_0 l0_0.length c0_0),(.slice A0_1 l0_1.length c0_1), .int .i64 a0_2] 30 (0,0))) ∧ Aside0 (Below w.heap.size w w'))
       case atStart=>exact ⟨(0),(by first|rfl|(simp;done)|(simp only [i64_w,i32_w];done)|(simp only [i64_w,i32_w];rfl)|(simp [*];done)|(simp [emp_bne,emp_beq];done)),H',⟨Nat.le_refl _⟩,⟨by (with_reducible repeat (first|refine blk_drewN ?_ _|refine blk_drew ?_|refine blk_alloc ?_ _));exact BK248.out⟩,⟨by repeat (first|(with_reducible first|exact HB.out|apply below_alloc|apply pw_below_drewN|apply below_drew1|refine below_set ?_ GE248.out)|exact HB.out)⟩⟩
       case round =>
        clear H'
        try clear c1
        try clear p2
        try clear c3
        try clear c4
        try clear c4b0
        try clear c4b1
        try clear c4b2
        try clear c6
        try clear c6b0
        try clear c6b1
        try clear c8
        try clear c8b0
        try clear c11
        try clear c13
        try clear c13b0
        try clear c13b1
        try clear c13b2
        try clear c16
        try clear hcz10_0
        try clear hcz10_1
        try clear hcz10_2
        try clear hcz14_0
        try clear hcz14_1
        try clear hcz14_2
        try clear hcz15_0
        try clear hcz15_1
        try clear hcz15_2
        try clear hcz17_0
        try clear hcz17_1
        try clear hcz17_2
        try clear hcz5_0
        try clear hcz5_1
        try clear hcz5_2
        try clear hcz7_0
        try clear hcz7_1
        try clear hcz7_2
        try clear hcz9_0
        try clear hcz9_1
        try clear hcz9_2
        try clear hfz10_0
        try clear hfz10_1
        try clear hfz10_2
        try clear hfz14_0
        try clear hfz14_1
        try clear hfz14_2
        try clear hfz15_0
        try clear hfz15_1
        try clear hfz15_2
        try clear hfz17_0
        try clear hfz17_1
        try clear hfz17_2
        try clear hfz5_0
        try clear hfz5_1
        try clear hfz5_2
        try clear hfz7_0
        try clear hfz7_1
        try clear hfz7_2
        try clear hfz9_0
        try clear hfz9_1
        try clear hfz9_2
        try clear p2
        obtain ⟨x37_3,rfl,HA,HK3,BK248,HB⟩:=hrel
        cases gk with
        | zero=>exact absurd HA.out (by simp [impl_groupOk.l0])
        | succ k3 =>
         have H:=HA.out
         clear HA
         simp only [impl_groupOk.l0] at H
         by_cases c18:x37_3 < (l0_0.length:Int)
         ·rw [if_pos c18] at H
          have c18b0:decide (x37_3 < (l0_0.length:Int)) = true:=decide_eq_true c18
          clear c18
          by_cases c19:0 ≤ x37_3
          ·rw [if_pos c19] at H
           have c19b0:decide (0 ≤ x37_3) = true:=decide_eq_true c19
           clear c19
           by_cases c20:x37_3 < (l0_0.length:Int)
           ·rw [if_pos c20] at H
            have c20b0:decide (x37_3 < (l0_0.length:Int)) = true:=decide_eq_true c20
            clear c20
            replace H:=Option.bind_eq_some_iff.mp H
            obtain ⟨t250,A210,H⟩:=H
            replace H:(if t250 = true then (impl_groupOk.l0 k3 l0_0 (l0_0.length:Int) (wrap64 (x37_3 + 1)) l0_0 l0_1 a0_2) else (some false)) = some r:=H
            have A21:=Aside0.mk A210
            clear A210
            by_cases c22:t250 = true
            ·subst c22
             have H1:(impl_groupOk.l0 k3 l0_0 (l0_0.length:Int) (wrap64 (x37_3 + 1)) l0_0 l0_1 a0_2) = some r:=by rw [if_pos rfl] at H;exact H
             clear H
             have H:=H1
             clear H1
             have H':=Aside0.mk H
             clear H
             have p249:0 ≤ (x37_3:Int):=of_decide_eq_true (by first|(with_reducible assumption)|assumption)
             have q249:x37_3 < (l0_0.length:Int):=of_decide_eq_true (by first|(with_reducible assumption)|assumption)
             obtain ⟨ad249,e249,hx249_0⟩:=Kd.at_string HR0_0.out x37_3 p249 q249
             cases e249
             replace hx249_0:=(HB.out.cell (World.block_lt_of_cell? w _ hx249_0)).trans hx249_0
             replace p249:=eq_true p249
             replace q249:=eq_true q249
             go_wp2_with (first|((with_reducible refine gate_callee (f:=53) rfl ?_);refine goesL_ (some 42) rfl rfl Try.func53 (by kernel_rfl) rfl #[.string (rdOf ByteArray.empty l0_0 x37_3)] rfl (by (try simp only [List.map_toArray,List.map_cons,List.map_nil]);first|done|rfl|(simp only [List.length_drop,List.length_take];rfl)) ?_;(with_reducible refine (impl_isGroupName.calls k3 (rdOf ByteArray.empty l0_0 x37_3) true _ A21.out).mono ?_);rintro e w' ⟨rfl,⟨nd,rfl⟩⟩;refine ⟨_,rfl,?_⟩))
             go_roundg k3
             case measure=>have:=HJ1.out;have:=HJ11.out;have:=HK3.out;omega
             case rel=>exact ⟨(wrap64 (x37_3 + 1)),(by first|rfl|(simp;done)|(simp only [i64_w,i32_w];done)|(simp only [i64_w,i32_w];rfl)|(simp [*];done)|(simp [emp_bne,emp_beq];done)),H',⟨by have:=HJ1.out;have:=HJ11.out;have:=HK3.out;omega⟩,⟨by (with_reducible repeat (first|refine blk_drewN ?_ _|refine blk_drew ?_|refine blk_alloc ?_ _));exact BK248.out⟩,⟨by repeat (first|(with_reducible first|exact HB.out|apply below_alloc|apply pw_below_drewN|apply below_drew1|refine below_set ?_ GE248.out)|exact HB.out)⟩⟩
            ·replace c22:=Bool.eq_false_iff.mpr c22
             subst c22
             have H1:(some false) = some r:=by rw [if_neg (show ¬ (false = true) by decide)] at H;exact H
             clear H
             have H:=H1
             clear H1
             obtain rfl:=Option.some.inj H
             have p249:0 ≤ (x37_3:Int):=of_decide_eq_true (by first|(with_reducible assumption)|assumption)
             have q249:x37_3 < (l0_0.length:Int):=of_decide_eq_true (by first|(with_reducible assumption)|assumption)
             obtain ⟨ad249,e249,hx249_0⟩:=Kd.at_string HR0_0.out x37_3 p249 q249
             cases e249
             replace hx249_0:=(HB.out.cell (World.block_lt_of_cell? w _ hx249_0)).trans hx249_0
             replace p249:=eq_true p249
             replace q249:=eq_true q249
             go_wp2_with (first|((with_reducible refine gate_callee (f:=53) rfl ?_);refine goesL_ (some 42) rfl rfl Try.func53 (by kernel_rfl) rfl #[.string (rdOf ByteArray.empty l0_0 x37_3)] rfl (by (try simp only [List.map_toArray,List.map_cons,List.map_nil]);first|done|rfl|(simp only [List.length_drop,List.length_take];rfl)) ?_;(with_reducible refine (impl_isGroupName.calls k3 (rdOf ByteArray.empty l0_0 x37_3) false _ A21.out).mono ?_);rintro e w' ⟨rfl,⟨nd,rfl⟩⟩;refine ⟨_,rfl,?_⟩))
             go_ret
             exact ⟨by first|rfl|(simp <;> rfl)|(simp [*] <;> rfl),by repeat (first|(with_reducible first|exact HB.out|apply below_alloc|apply pw_below_drewN|apply below_drew1|refine below_set ?_ GE248.out)|exact HB.out)⟩
           ·rw [if_neg c20] at H
            exact absurd H (by simp)
          ·rw [if_neg c19] at H
           exact absurd H (by simp)
         ·rw [if_neg c18] at H
          have c18b0:decide (x37_3 < (l0_0.length:Int)) = false:=decide_eq_false c18
          clear c18
          replace H:=Option.bind_eq_some_iff.mp H
          obtain ⟨t251,A230,H⟩:=H
          replace H:(some t251) = some r:=H
          have A23:=Aside0.mk A230
          clear A230
          obtain rfl:=Option.some.inj H
          have hcz24_0:wr.cell? ⟨gb248,0,none⟩ = some (.slice A0_0 l0_0.length c0_0):=(blk_cell BK248.out 0).trans rfl
          have hcz24_1:wr.cell? ⟨gb248,1,none⟩ = some (.slice A0_1 l0_1.length c0_1):=(blk_cell BK248.out 1).trans rfl
          have hcz24_2:wr.cell? ⟨gb248,2,none⟩ = some (.int .i64 a0_2):=(blk_cell BK248.out 2).trans rfl
          have hfz24_0:=blk_frozen BK248.out 0
          have hfz24_1:=blk_frozen BK248.out 1
          have hfz24_2:=blk_frozen BK248.out 2
          go_wp2_with (first|((with_reducible refine gate_callee (f:=54) rfl ?_);refine goesL_ (some 47) rfl rfl Try.func54 (by kernel_rfl) rfl #[.slice A0_1 l0_1.length c0_1] rfl (by (try simp only [List.map_toArray,List.map_cons,List.map_nil]);first|done|rfl|(simp only [List.length_drop,List.length_take];rfl)) ?_;(with_reducible refine (impl_rulesOk.calls k3 _ _ l0_1 t251 _ ?side1 ?side2 A23.out).mono ?_);(case side1=>repeat (first|exact (Kd.C_below HR0_1.out HB.out)|(with_reducible refine Kd.C_alloc ?_ _)|(with_reducible refine Kd.C_drewN ?_ _)|(with_reducible refine Kd.C_drew ?_)));(case side2=>exact HC0_1.out);rintro e w25 ⟨rfl,hb⟩;refine ⟨_,rfl,?_⟩;have n0_:=Aside0.mk (blk_below (g:=gb248) (o:=.cells #[.slice A0_0 l0_0.length c0_0, .slice A0_1 l0_1.length c0_1, .int .i64 a0_2] 30 (0,0)) (by (with_reducible repeat (first|refine blk_drewN ?_ _|refine blk_drew ?_|refine blk_alloc ?_ _));exact BK248.out) hb);have n1_:=Aside0.mk (below_step (by repeat (first|(with_reducible first|exact HB.out|apply below_alloc|apply pw_below_drewN|apply below_drew1|refine below_set ?_ GE248.out)|exact HB.out)) hb);clear BK248;clear HB;have BK248:=n0_;have HB:=n1_;clear n0_ n1_;(try clear hb);(try clear hb2);(try clear hk);(try clear hi)))
          go_ret
          exact ⟨by first|rfl|(simp <;> rfl)|(simp [*] <;> rfl),by repeat (first|(with_reducible first|exact HB.out|apply below_alloc|apply pw_below_drewN|apply below_drew1|refine below_set ?_ GE248.out)|exact HB.out)⟩

/-! ### impl_NoticeOk: function 19 -/
def impl_NoticeOk.l0:Nat → Int → List (S30) → Int → Int → Option (Bool)
 | 0,_,_,_,_=>none
 | k + 1,x3,x6,x7,x8=>if x8 < x7 then (if 0 ≤ x8 then (if x8 < (x6.length:Int) then ((impl_groupOk.f k ((rd_T30 x6 x8).f0) ((rd_T30 x6 x8).f1) ((rd_T30 x6 x8).f2)).bind fun t254=>(if t254 = true then (impl_NoticeOk.l0 k (wrap64 (x3 + (wrap64 ((wrap64 ((((rd_T30 x6 x8).f0).length:Int) + (((rd_T30 x6 x8).f1).length:Int))) + 1)))) x6 x7 (wrap64 (x8 + 1))) else (some false))) else (none)) else (none)) else (some (decide (x3 ≤ 40)))
def impl_NoticeOk.f (k:Nat) (l0:List (S30)):Option (Bool):=impl_NoticeOk.l0 k 0 l0 (l0.length:Int) 0
theorem impl_NoticeOk.mono_l:∀ k,(∀ y0 y1 y2 y3,LeO (impl_NoticeOk.l0 k y0 y1 y2 y3) (impl_NoticeOk.l0 (k + 1) y0 y1 y2 y3))
 | 0=>fun _ _ _ _ r h=>by simp [impl_NoticeOk.l0] at h
 | k + 1=>by
  have ih0:=impl_NoticeOk.mono_l k
  ·intro y0 y1 y2 y3
   unfold impl_NoticeOk.l0
   repeat' first
   | (with_reducible exact ih0 _ _ _ _)
   | (with_reducible exact impl_groupOk.mono _ _ _ _)
   | (with_reducible exact LeO.refl _)
   | (with_reducible exact LeO.none _)
   | (with_reducible refine LeO.ite ?_ ?_)
   | (with_reducible refine LeO.bind ?_ (fun _=>?_))
   | exact ih0 _ _ _ _
   | exact impl_groupOk.mono _ _ _ _
   | exact LeO.none _
   | refine LeO.ite ?_ ?_
   | refine LeO.bind ?_ (fun _=>?_)
theorem impl_NoticeOk.mono:∀ a0 k,LeO (impl_NoticeOk.f k a0) (impl_NoticeOk.f (k + 1) a0):=by
 intro a0 k
 have ih0:=impl_NoticeOk.mono_l k
 unfold impl_NoticeOk.f
 repeat' first
   | (with_reducible exact ih0 _ _ _ _)
   | (with_reducible exact impl_groupOk.mono _ _ _ _)
   | (with_reducible exact LeO.refl _)
   | (with_reducible exact LeO.none _)
   | (with_reducible refine LeO.ite ?_ ?_)
   | (with_reducible refine LeO.bind ?_ (fun _=>?_))
   | exact ih0 _ _ _ _
   | exact impl_groupOk.mono _ _ _ _
   | exact LeO.none _
   | refine LeO.ite ?_ ?_
   | refine LeO.bind ?_ (fun _=>?_)
theorem impl_NoticeOk.calls (k:Nat) (A0:Option Addr) (c0:Nat) (l0:List (S30)) (r:Bool) (w:World) (hr0:Kd.C k30 w A0 l0.length l0) (hc0:l0.length ≤ c0) (h:impl_NoticeOk.f k l0 = some r) :
  Calls Try.prog 19 #[.slice A0 l0.length c0] w fun e w'=>e = .returned (.bool r) ∧ Below w.heap.size w w':=by
 have hu30:=Try.underlying30
 have HR0:=Aside0.mk hr0
 have HC0:=Aside0.mk hc0
 clear hr0 hc0
 have HB:=Aside0.mk (Below.refl w.heap.size w)
 have H:(impl_NoticeOk.l0 k 0 l0 (l0.length:Int) 0) = some r:=h
 clear h
 have H':=Aside0.mk H
 clear H
 go_enter Try.func19,Try.ntmps19
 go_wp2
 go_loopg [3,8] k (fun kq v3 v8 w'=>∃ (x3_1:Int) (x8_1:Int),v3 = .int .i64 x3_1 ∧ v8 = .int .i64 x8_1 ∧ Aside0 (impl_NoticeOk.l0 kq x3_1 l0 (l0.length:Int) x8_1 = some r) ∧ Aside0 (kq ≤ k) ∧ Aside0 (Below w.heap.size w w'))
 case atStart=>exact ⟨(0),(0),(by first|rfl|(simp;done)|(simp only [i64_w,i32_w];done)|(simp only [i64_w,i32_w];rfl)|(simp [*];done)|(simp [emp_bne,emp_beq];done)),(by first|rfl|(simp;done)|(simp only [i64_w,i32_w];done)|(simp only [i64_w,i32_w];rfl)|(simp [*];done)|(simp [emp_bne,emp_beq];done)),H',⟨Nat.le_refl _⟩,⟨by repeat (first|(with_reducible first|exact HB.out|apply below_alloc|apply pw_below_drewN|apply below_drew1)|exact HB.out)⟩⟩
 case round =>
  clear H'
  try clear c1
  obtain ⟨x3_1,x8_1,rfl,rfl,HA,HK1,HB⟩:=hrel
  cases gk with
  | zero=>exact absurd HA.out (by simp [impl_NoticeOk.l0])
  | succ k1 =>
   have H:=HA.out
   clear HA
   simp only [impl_NoticeOk.l0] at H
   by_cases c2:x8_1 < (l0.length:Int)
   ·rw [if_pos c2] at H
    have c2b0:decide (x8_1 < (l0.length:Int)) = true:=decide_eq_true c2
    clear c2
    by_cases c3:0 ≤ x8_1
    ·rw [if_pos c3] at H
     have c3b0:decide (0 ≤ x8_1) = true:=decide_eq_true c3
     clear c3
     by_cases c4:x8_1 < (l0.length:Int)
     ·rw [if_pos c4] at H
      have c4b0:decide (x8_1 < (l0.length:Int)) = true:=decide_eq_true c4
      clear c4
      replace H:=Option.bind_eq_some_iff.mp H
      obtain ⟨t254,A50,H⟩:=H
      replace H:(if t254 = true then (impl_NoticeOk.l0 k1 (wrap64 (x3_1 + (wrap64 ((wrap64 ((((rd_T30 l0 x8_1).f0).length:Int) + (((rd_T30 l0 x8_1).f1).length:Int))) + 1)))) l0 (l0.length:Int) (wrap64 (x8_1 + 1))) else (some false)) = some r:=H
      have A5:=Aside0.mk A50
      clear A50
      by_cases c6:t254 = true
      ·subst c6
       have H1:(impl_NoticeOk.l0 k1 (wrap64 (x3_1 + (wrap64 ((wrap64 ((((rd_T30 l0 x8_1).f0).length:Int) + (((rd_T30 l0 x8_1).f1).length:Int))) + 1)))) l0 (l0.length:Int) (wrap64 (x8_1 + 1))) = some r:=by rw [if_pos rfl] at H;exact H
       clear H
       have H:=H1
       clear H1
       have H':=Aside0.mk H
       clear H
       have p252:0 ≤ (x8_1:Int):=of_decide_eq_true (by first|(with_reducible assumption)|assumption)
       have q252:x8_1 < (l0.length:Int):=of_decide_eq_true (by first|(with_reducible assumption)|assumption)
       obtain ⟨ad252,A252_0,c252_0,A252_1,c252_1,e252,hx252_0,hx252_1,hx252_2,hl252_0,hi252_0,hl252_1,hi252_1⟩:=at_T30 HR0.out x8_1 p252 q252
       cases e252
       replace hx252_0:=(HB.out.cell (World.block_lt_of_cell? w _ hx252_0)).trans hx252_0
       replace hx252_1:=(HB.out.cell (World.block_lt_of_cell? w _ hx252_1)).trans hx252_1
       replace hx252_2:=(HB.out.cell (World.block_lt_of_cell? w _ hx252_2)).trans hx252_2
       have HR252_0:=Aside0.mk hi252_0
       have HC252_0:=Aside0.mk hl252_0
       clear hi252_0 hl252_0
       have HR252_1:=Aside0.mk hi252_1
       have HC252_1:=Aside0.mk hl252_1
       clear hi252_1 hl252_1
       replace p252:=eq_true p252
       replace q252:=eq_true q252
       go_wp2_with (first|((with_reducible refine gate_dst (N:=5) rfl ?_);refine box_event ?hg (N:=5) ?hd (cs:=#[.slice none 0 0, .slice none 0 0, .int .i64 0]) (t:=30) ?hr ?_;(case hd=>rfl);(case hg=>rfl);(case hr=>first|(go_simp;done)|(go_simp;rfl));intro gb253 hg w7 hbox hb;have n0_:=Aside0.mk (below_step (by repeat (first|(with_reducible first|exact HB.out|apply below_alloc|apply pw_below_drewN|apply below_drew1)|exact HB.out)) hb);have n1_:=Aside0.mk (hbox);have n2_:=Aside0.mk ((by rw [hg];exact (below_size (by repeat (first|(with_reducible first|exact HB.out|apply below_alloc|apply pw_below_drewN|apply below_drew1)|exact HB.out))):w.heap.size ≤ gb253));have n3_:=n2_;clear HB;have HB:=n0_;have BK253:=n1_;have GW253:=n2_;have GE253:=n3_;clear n0_ n1_ n2_ n3_;clear hb hbox hg;have hcz8_0:w7.cell? ⟨gb253,0,none⟩ = some (.slice none 0 0):=(blk_cell BK253.out 0).trans rfl;have hcz8_1:w7.cell? ⟨gb253,1,none⟩ = some (.slice none 0 0):=(blk_cell BK253.out 1).trans rfl;have hcz8_2:w7.cell? ⟨gb253,2,none⟩ = some (.int .i64 0):=(blk_cell BK253.out 2).trans rfl;have hfz8_0:=blk_frozen BK253.out 0;have hfz8_1:=blk_frozen BK253.out 1;have hfz8_2:=blk_frozen BK253.out 2)|((with_reducible refine gate_callee (f:=37) rfl ?_);refine goesL_ (some 13) rfl rfl Try.func37 (by kernel_rfl) rfl #[.agg #[.slice A252_0 ((rd_T30 l0 x8_1).f0).length c252_0, .slice A252_1 ((rd_T30 l0 x8_1).f1).length c252_1, .int .i64 ((rd_T30 l0 x8_1).f2)]] rfl (by (try simp only [List.map_toArray,List.map_cons,List.map_nil]);first|done|rfl|(simp only [List.length_drop,List.length_take];rfl)) ?_;(with_reducible refine (impl_groupOk.calls k1 _ _ ((rd_T30 l0 x8_1).f0) _ _ ((rd_T30 l0 x8_1).f1) ((rd_T30 l0 x8_1).f2) true _ ?side1 ?side2 ?side3 ?side4 A5.out).mono ?_);(case side1=>exact Kd.C_below HR252_0.out (by repeat (first|(with_reducible first|exact HB.out|apply below_alloc|apply pw_below_drewN|apply below_drew1|refine below_set ?_ GE253.out)|exact HB.out)));(case side2=>exact HC252_0.out);(case side3=>exact Kd.C_below HR252_1.out (by repeat (first|(with_reducible first|exact HB.out|apply below_alloc|apply pw_below_drewN|apply below_drew1|refine below_set ?_ GE253.out)|exact HB.out)));(case side4=>exact HC252_1.out);rintro e w9 ⟨rfl,hb⟩;refine ⟨_,rfl,?_⟩;have n0_:=Aside0.mk (blk_below (g:=gb253) (o:=.cells #[.slice A252_0 ((rd_T30 l0 x8_1).f0).length c252_0, .slice A252_1 ((rd_T30 l0 x8_1).f1).length c252_1, .int .i64 ((rd_T30 l0 x8_1).f2)] 30 (0,0)) (by (with_reducible repeat (first|refine blk_drewN ?_ _|refine blk_drew ?_|refine blk_alloc ?_ _));refine blk_put (cs:=#[.slice A252_0 ((rd_T30 l0 x8_1).f0).length c252_0, .slice A252_1 ((rd_T30 l0 x8_1).f1).length c252_1, .int .i64 0]) ?_ 2 _ rfl;(with_reducible repeat (first|refine blk_drewN ?_ _|refine blk_drew ?_|refine blk_alloc ?_ _));refine blk_put (cs:=#[.slice A252_0 ((rd_T30 l0 x8_1).f0).length c252_0, .slice none 0 0, .int .i64 0]) ?_ 1 _ rfl;(with_reducible repeat (first|refine blk_drewN ?_ _|refine blk_drew ?_|refine blk_alloc ?_ _));refine blk_put (cs:=#[.slice none 0 0, .slice none 0 0, .int .i64 0]) ?_ 0 _ rfl;(with_reducible repeat (first|refine blk_drewN ?_ _|refine blk_drew ?_|refine blk_alloc ?_ _));exact BK253.out) hb);have n1_:=Aside0.mk (below_step (by repeat (first|(with_reducible first|exact HB.out|apply below_alloc|apply pw_below_drewN|apply below_drew1|refine below_set ?_ GE253.out)|exact HB.out)) hb);clear BK253;clear HB;have BK253:=n0_;have HB:=n1_;clear n0_ n1_;(try clear hb);(try clear hb2);(try clear hk);(try clear hi);have hcz10_0:w9.cell? ⟨gb253,0,none⟩ = some (.slice A252_0 ((rd_T30 l0 x8_1).f0).length c252_0):=(blk_cell BK253.out 0).trans rfl;have hcz10_1:w9.cell? ⟨gb253,1,none⟩ = some (.slice A252_1 ((rd_T30 l0 x8_1).f1).length c252_1):=(blk_cell BK253.out 1).trans rfl;have hcz10_2:w9.cell? ⟨gb253,2,none⟩ = some (.int .i64 ((rd_T30 l0 x8_1).f2)):=(blk_cell BK253.out 2).trans rfl;have hfz10_0:=blk_frozen BK253.out 0;have hfz10_1:=blk_frozen BK253.out 1;have hfz10_2:=blk_frozen BK253.out 2))
       go_roundg k1
       case measure=>have:=HK1.out;omega
       case rel=>exact ⟨(wrap64 (x3_1 + (wrap64 ((wrap64 ((((rd_T30 l0 x8_1).f0).length:Int) + (((rd_T30 l0 x8_1).f1).length:Int))) + 1)))),(wrap64 (x8_1 + 1)),(by first|rfl|(simp;done)|(simp only [i64_w,i32_w];done)|(simp only [i64_w,i32_w];rfl)|(simp [*];done)|(simp [emp_bne,emp_beq];done)),(by first|rfl|(simp;done)|(simp only [i64_w,i32_w];done)|(simp only [i64_w,i32_w];rfl)|(simp [*];done)|(simp [emp_bne,emp_beq];done)),H',⟨by have:=HK1.out;omega⟩,⟨by repeat (first|(with_reducible first|exact HB.out|apply below_alloc|apply pw_below_drewN|apply below_drew1|refine below_set ?_ GE253.out)|exact HB.out)⟩⟩
      ·replace c6:=Bool.eq_false_iff.mpr c6
       subst c6
       have H1:(some false) = some r:=by rw [if_neg (show ¬ (false = true) by decide)] at H;exact H
       clear H
       have H:=H1
       clear H1
       obtain rfl:=Option.some.inj H
       have p252:0 ≤ (x8_1:Int):=of_decide_eq_true (by first|(with_reducible assumption)|assumption)
       have q252:x8_1 < (l0.length:Int):=of_decide_eq_true (by first|(with_reducible assumption)|assumption)
       obtain ⟨ad252,A252_0,c252_0,A252_1,c252_1,e252,hx252_0,hx252_1,hx252_2,hl252_0,hi252_0,hl252_1,hi252_1⟩:=at_T30 HR0.out x8_1 p252 q252
       cases e252
       replace hx252_0:=(HB.out.cell (World.block_lt_of_cell? w _ hx252_0)).trans hx252_0
       replace hx252_1:=(HB.out.cell (World.block_lt_of_cell? w _ hx252_1)).trans hx252_1
       replace hx252_2:=(HB.out.cell (World.block_lt_of_cell? w _ hx252_2)).trans hx252_2
       have HR252_0:=Aside0.mk hi252_0
       have HC252_0:=Aside0.mk hl252_0
       clear hi252_0 hl252_0
       have HR252_1:=Aside0.mk hi252_1
       have HC252_1:=Aside0.mk hl252_1
       clear hi252_1 hl252_1
       replace p252:=eq_true p252
       replace q252:=eq_true q252
       go_wp2_with (first|((with_reducible refine gate_dst (N:=5) rfl ?_);refine box_event ?hg (N:=5) ?hd (cs:=#[.slice none 0 0, .slice none 0 0, .int .i64 0]) (t:=30) ?hr ?_;(case hd=>rfl);(case hg=>rfl);(case hr=>first|(go_simp;done)|(go_simp;rfl));intro gb253 hg w11 hbox hb;have n0_:=Aside0.mk (below_step (by repeat (first|(with_reducible first|exact HB.out|apply below_alloc|apply pw_below_drewN|apply below_drew1)|exact HB.out)) hb);have n1_:=Aside0.mk (hbox);have n2_:=Aside0.mk ((by rw [hg];exact (below_size (by repeat (first|(with_reducible first|exact HB.out|apply below_alloc|apply pw_below_drewN|apply below_drew1)|exact HB.out))):w.heap.size ≤ gb253));have n3_:=n2_;clear HB;have HB:=n0_;have BK253:=n1_;have GW253:=n2_;have GE253:=n3_;clear n0_ n1_ n2_ n3_;clear hb hbox hg;have hcz12_0:w11.cell? ⟨gb253,0,none⟩ = some (.slice none 0 0):=(blk_cell BK253.out 0).trans rfl;have hcz12_1:w11.cell? ⟨gb253,1,none⟩ = some (.slice none 0 0):=(blk_cell BK253.out 1).trans rfl;have hcz12_2:w11.cell? ⟨gb253,2,none⟩ = some (.int .i64 0):=(blk_cell BK253.out 2).trans rfl;have hfz12_0:=blk_frozen BK253.out 0;have hfz12_1:=blk_frozen BK253.out 1;have hfz12_2:=blk_frozen BK253.out 2)|((with_reducible refine gate_callee (f:=37) rfl ?_);refine goesL_ (some 13) rfl rfl Try.func37 (by kernel_rfl) rfl #[.agg #[.slice A252_0 ((rd_T30 l0 x8_1).f0).length c252_0, .slice A252_1 ((rd_T30 l0 x8_1).f1).length c252_1, .int .i64 ((rd_T30 l0 x8_1).f2)]] rfl (by (try simp only [List.map_toArray,List.map_cons,List.map_nil]);first|done|rfl|(simp only [List.length_drop,List.length_take];rfl)) ?_;(with_reducible refine (impl_groupOk.calls k1 _ _ ((rd_T30 l0 x8_1).f0) _ _ ((rd_T30 l0 x8_1).f1) ((rd_T30 l0 x8_1).f2) false _ ?side1 ?side2 ?side3 ?side4 A5.out).mono ?_);(case side1=>exact Kd.C_below HR252_0.out (by repeat (first|(with_reducible first|exact HB.out|apply below_alloc|apply pw_below_drewN|apply below_drew1|refine below_set ?_ GE253.out)|exact HB.out)));(case side2=>exact HC252_0.out);(case side3=>exact Kd.C_below HR252_1.out (by repeat (first|(with_reducible first|exact HB.out|apply below_alloc|apply pw_below_drewN|apply below_drew1|refine below_set ?_ GE253.out)|exact HB.out)));(case side4=>exact HC252_1.out);rintro e w13 ⟨rfl,hb⟩;refine ⟨_,rfl,?_⟩;have n0_:=Aside0.mk (blk_below (g:=gb253) (o:=.cells #[.slice A252_0 ((rd_T30 l0 x8_1).f0).length c252_0, .slice A252_1 ((rd_T30 l0 x8_1).f1).length c252_1, .int .i64 ((rd_T30 l0 x8_1).f2)] 30 (0,0)) (by (with_reducible repeat (first|refine blk_drewN ?_ _|refine blk_drew ?_|refine blk_alloc ?_ _));refine blk_put (cs:=#[.slice A252_0 ((rd_T30 l0 x8_1).f0).length c252_0, .slice A252_1 ((rd_T30 l0 x8_1).f1).length c252_1, .int .i64 0]) ?_ 2 _ rfl;(with_reducible repeat (first|refine blk_drewN ?_ _|refine blk_drew ?_|refine blk_alloc ?_ _));refine blk_put (cs:=#[.slice A252_0 ((rd_T30 l0 x8_1).f0).length c252_0, .slice none 0 0, .int .i64 0]) ?_ 1 _ rfl;(with_reducible repeat (first|refine blk_drewN ?_ _|refine blk_drew ?_|refine blk_alloc ?_ _));refine blk_put (cs:=#[.slice none 0 0, .slice none 0 0, .int .i64 0]) ?_ 0 _ rfl;(with_reducible repeat (first|refine blk_drewN ?_ _|refine blk_drew ?_|refine blk_alloc ?_ _));exact BK253.out) hb);have n1_:=Aside0.mk (below_step (by repeat (first|(with_reducible first|exact HB.out|apply below_alloc|apply pw_below_drewN|apply below_drew1|refine below_set ?_ GE253.out)|exact HB.out)) hb);clear BK253;clear HB;have BK253:=n0_;have HB:=n1_;clear n0_ n1_;(try clear hb);(try clear hb2);(try clear hk);(try clear hi)))
       go_ret
       exact ⟨by first|rfl|(simp <;> rfl)|(simp [*] <;> rfl),by repeat (first|(with_reducible first|exact HB.out|apply below_alloc|apply pw_below_drewN|apply below_drew1|refine below_set ?_ GE253.out)|exact HB.out)⟩
     ·rw [if_neg c4] at H
      exact absurd H (by simp)
    ·rw [if_neg c3] at H
     exact absurd H (by simp)
   ·rw [if_neg c2] at H
    have c2b0:decide (x8_1 < (l0.length:Int)) = false:=decide_eq_false c2
    clear c2
    obtain rfl:=Option.some.inj H
    go_wp2
    go_ret
    exact ⟨by first|rfl|(simp <;> rfl)|(simp [*] <;> rfl),by repeat (first|(with_reducible first|exact HB.out|apply below_alloc|apply pw_below_drewN|apply below_drew1)|exact HB.out)⟩

/-! ### spec_l6In: function 38 -/
def spec_l6In.f (a0:Int) (a1:Int) (a2:Int):Option (Bool):=if a0 ≥ a1 then (some (decide (a0 ≤ a2))) else (some false)
theorem spec_l6In.calls (a0:Int) (a1:Int) (a2:Int) (r:Bool) (w:World) (h:spec_l6In.f a0 a1 a2 = some r) :
  Calls Try.prog 38 #[.int .i64 a0, .int .i64 a1, .int .i64 a2] w fun e w'=>e = .returned (.bool r) ∧ Drawn0 w w':=by
 have H:(if a0 ≥ a1 then (some (decide (a0 ≤ a2))) else (some false)) = some r:=h
 clear h
 by_cases c4:a0 ≥ a1
 ·rw [if_pos c4] at H
  have c4b0:decide (a1 ≤ a0) = true:=decide_eq_true c4
  clear c4
  obtain rfl:=Option.some.inj H
  go_enter Try.func38,Try.ntmps38
  go_wp2
  go_ret
  exact ⟨by first|rfl|(simp;done)|(simp only [i64_w,i32_w];done)|(simp only [i64_w,i32_w];rfl)|(simp [*];done)|(simp [emp_bne,emp_beq];done),by repeat (first|exact Drawn0.refl _|apply Drawn0.step)⟩
 ·rw [if_neg c4] at H
  have c4b0:decide (a1 ≤ a0) = false:=decide_eq_false c4
  clear c4
  obtain rfl:=Option.some.inj H
  go_enter Try.func38,Try.ntmps38
  go_wp2
  go_ret
  exact ⟨by first|rfl|(simp;done)|(simp only [i64_w,i32_w];done)|(simp only [i64_w,i32_w];rfl)|(simp [*];done)|(simp [emp_bne,emp_beq];done),by repeat (first|exact Drawn0.refl _|apply Drawn0.step)⟩

end Go.Proofs.Ytheakfegchndcaa.P
