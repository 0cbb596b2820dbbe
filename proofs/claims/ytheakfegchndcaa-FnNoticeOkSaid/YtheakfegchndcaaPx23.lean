-- Written by a program of this session (patch_print.py over the kit's print; given texts in wip/given).
-- Cut down by a program of this session (wip/tools/prune.py) to what its claim can name.
import Derived.Test.YtheakfegchndcaaPx0
import Derived.Test.YtheakfegchndcaaPx2
import Derived.Test.YtheakfegchndcaaPx4
import Derived.Test.YtheakfegchndcaaPx5
import Derived.Test.YtheakfegchndcaaPx11
import Derived.Test.YtheakfegchndcaaPx13
namespace Go.Proofs.Ytheakfegchndcaa.P
open Go.RowKit Go.Proofs.YtheakfegchndcaaW.PrintWords Go.Proofs.YtheakfegchndcaaW.PrintLast Go.Proofs.YtheakfegchndcaaW.PrintMore
attribute [local go_sem] max2_int min2_int max_two min_two max_three min_three max_four min_four   -- for this text's walks alone
set_option linter.unusedVariables false
set_option linter.unusedSimpArgs false
set_option maxHeartbeats 8000000
set_option maxRecDepth 100000

/-! ### spec_DrawNoticeOk: function 18 -/
def spec_DrawNoticeOk.j0:Nat → List (S30) → Bool → List Int → Int → Option ((List (S30)))
 | 0,_,_,_,_=>none
 | k + 1,x4,x16,x408000,x408001=>if x16 = true then ((some (([(-1),21,0]:List Int):List Int)).bind fun y414=>((spec_l6Rd_pick.f k x408000 x408001 3).bind fun bt417=>(if 0 ≤ bt417.1 then (if bt417.1 < (y414.length:Int) then (if 0 < (x4.length:Int) then ((some (x4.set (0:Int).toNat (⟨(rd_T30 x4 0).f0,(rd_T30 x4 0).f1,rd y414 bt417.1⟩:S30):List (S30))).bind fun y420=>((spec_l6Rd_pick.f k x408000 bt417.2 2).bind fun bt421=>(if bt421.1 = 0 then (if ((rd_T30 y420 0).f1).length < 5864062014805 then (some (y420.set (0:Int).toNat (⟨(rd_T30 y420 0).f0,(((rd_T30 y420 0).f1) ++ [(⟨false,(⟨#[97]⟩:ByteArray)⟩:S57)]),(rd_T30 y420 0).f2⟩:S30))) else (none)) else (some y420)))) else (none)) else (none)) else (none)))) else (some x4)
def spec_DrawNoticeOk.f (k:Nat) (l0:List Int):Option ((List (S30))):=(spec_l6Open.f l0).bind fun bt405=>((spec_l71Groups.f k bt405.1 bt405.2).bind fun bt408=>((spec_l6Rd_pick.f k bt405.1 bt408.2 3).bind fun bt412=>(if bt412.1 = 0 then (spec_DrawNoticeOk.j0 k bt408.1 (decide ((bt408.1.length:Int) > 0)) bt405.1 bt412.2) else (spec_DrawNoticeOk.j0 k bt408.1 false bt405.1 bt412.2))))
theorem spec_DrawNoticeOk.mono_l:∀ k,(∀ y0 y1 y2 y3,LeO (spec_DrawNoticeOk.j0 k y0 y1 y2 y3) (spec_DrawNoticeOk.j0 (k + 1) y0 y1 y2 y3))
 | 0=>fun _ _ _ _ r h=>by simp [spec_DrawNoticeOk.j0] at h
 | k + 1=>by
  have ih0:=spec_DrawNoticeOk.mono_l k
  ·intro y0 y1 y2 y3
   unfold spec_DrawNoticeOk.j0
   repeat' first
   | (with_reducible exact ih0 _ _ _ _)
   | (with_reducible exact spec_l6Rd_pick.mono _ _ _ _)
   | (with_reducible exact spec_l71Groups.mono _ _ _)
   | (with_reducible exact LeO.refl _)
   | (with_reducible exact LeO.none _)
   | (with_reducible refine LeO.ite ?_ ?_)
   | (with_reducible refine LeO.bind ?_ (fun _=>?_))
   | exact ih0 _ _ _ _
   | exact spec_l6Rd_pick.mono _ _ _ _
   | exact spec_l71Groups.mono _ _ _
   | exact LeO.none _
   | refine LeO.ite ?_ ?_
   | refine LeO.bind ?_ (fun _=>?_)
theorem spec_DrawNoticeOk.mono:∀ a0 k,LeO (spec_DrawNoticeOk.f k a0) (spec_DrawNoticeOk.f (k + 1) a0):=by
 intro a0 k
 have ih0:=spec_DrawNoticeOk.mono_l k
 unfold spec_DrawNoticeOk.f
 repeat' first
   | (with_reducible exact ih0 _ _ _ _)
   | (with_reducible exact spec_l6Rd_pick.mono _ _ _ _)
   | (with_reducible exact spec_l71Groups.mono _ _ _)
   | (with_reducible exact LeO.refl _)
   | (with_reducible exact LeO.none _)
   | (with_reducible refine LeO.ite ?_ ?_)
   | (with_reducible refine LeO.bind ?_ (fun _=>?_))
   | exact ih0 _ _ _ _
   | exact spec_l6Rd_pick.mono _ _ _ _
   | exact spec_l71Groups.mono _ _ _
   | exact LeO.none _
   | refine LeO.ite ?_ ?_
   | refine LeO.bind ?_ (fun _=>?_)
theorem spec_DrawNoticeOk.calls (k:Nat) (A0:Option Addr) (c0:Nat) (l0:List Int) (r:List (S30)) (w:World) (hr0:Kd.C (Kd.int .u8) w A0 l0.length l0) (hc0:l0.length ≤ c0) (h:spec_DrawNoticeOk.f k l0 = some r) :
  Calls Try.prog 18 #[.slice A0 l0.length c0] w fun e w'=>∃ v0_:Value,e = .returned (v0_) ∧ Kd.S k30 30 w' w.heap.size (fun _=>True) v0_ r ∧ Below w.heap.size w w':=by
 have hu57:=Try.underlying57
 have HR0:=Aside0.mk hr0
 have HC0:=Aside0.mk hc0
 clear hr0 hc0
 have HB:=Aside0.mk (Below.refl w.heap.size w)
 have H:((spec_l6Open.f l0).bind fun bt405=>((spec_l71Groups.f k bt405.1 bt405.2).bind fun bt408=>((spec_l6Rd_pick.f k bt405.1 bt408.2 3).bind fun bt412=>(if bt412.1 = 0 then (spec_DrawNoticeOk.j0 k bt408.1 (decide ((bt408.1.length:Int) > 0)) bt405.1 bt412.2) else (spec_DrawNoticeOk.j0 k bt408.1 false bt405.1 bt412.2))))) = some r:=h
 clear h
 replace H:=Option.bind_eq_some_iff.mp H
 obtain ⟨⟨t405,t406⟩,A20,H⟩:=H
 replace H:((spec_l71Groups.f k t405 t406).bind fun bt408=>((spec_l6Rd_pick.f k t405 bt408.2 3).bind fun bt412=>(if bt412.1 = 0 then (spec_DrawNoticeOk.j0 k bt408.1 (decide ((bt408.1.length:Int) > 0)) t405 bt412.2) else (spec_DrawNoticeOk.j0 k bt408.1 false t405 bt412.2)))) = some r:=H
 have A2:=Aside0.mk A20
 clear A20
 replace H:=Option.bind_eq_some_iff.mp H
 obtain ⟨⟨t408,t411⟩,A30,H⟩:=H
 replace H:((spec_l6Rd_pick.f k t405 t411 3).bind fun bt412=>(if bt412.1 = 0 then (spec_DrawNoticeOk.j0 k t408 (decide ((t408.length:Int) > 0)) t405 bt412.2) else (spec_DrawNoticeOk.j0 k t408 false t405 bt412.2))) = some r:=H
 have A3:=Aside0.mk A30
 clear A30
 have HC4:=Aside0.mk H
 clear H
 go_enter Try.func18,Try.ntmps18
 go_upto_region 3 with (first|((with_reducible refine gate_callee (f:=28) rfl ?_);refine goesL_ (some 6) rfl rfl Try.func28 (by kernel_rfl) rfl #[.slice A0 l0.length c0] rfl (by (try simp only [List.map_toArray,List.map_cons,List.map_nil]);first|done|rfl|(simp only [List.length_drop,List.length_take];rfl)) ?_;(with_reducible refine (spec_l6Open.calls _ _ l0 t405 t406 w _ ?side1 ?side2 ?side3 A2.out).mono ?_);(case side1=>repeat (first|(with_reducible first|exact HB.out|apply below_alloc|apply pw_below_drewN|apply below_drew1)|exact HB.out));(case side2=>exact HR0.out);(case side3=>exact HC0.out);rintro e w5 ⟨g407,rfl,hi,hb,hb2⟩;refine ⟨_,rfl,?_⟩;have n0_:=Aside0.mk (hb);have n1_:=Aside0.mk (hi);clear HB;have HB:=n0_;have HI407:=n1_;clear n0_ n1_;(try clear hb);(try clear hb2);(try clear hk);(try clear hi))|((with_reducible refine gate_callee (f:=29) rfl ?_);refine goesL_ (some 8) rfl rfl Try.func29 (by kernel_rfl) rfl #[.pointer (some ⟨g407,0,none⟩)] rfl (by (try simp only [List.map_toArray,List.map_cons,List.map_nil]);first|done|rfl|(simp only [List.length_drop,List.length_take];rfl)) ?_;(with_reducible refine (spec_l71Groups.calls k g407 t405 t406 t408 t411 w _ ?side1 ?side2 A3.out).mono ?_);(case side1=>repeat (first|(with_reducible first|exact HI407.out|apply IsS70.alloc|apply IsS70.drewN|apply IsS70.drew|apply IsS70.set_1)|exact HI407.out));(case side2=>repeat (first|(with_reducible first|exact HB.out|apply below_alloc|apply pw_below_drewN|apply below_drew1|refine below_set ?_ (IsS70.ge HI407.out))|exact HB.out));rintro e w6 ⟨v409,rfl,ho0,hi,hb,hk⟩;refine ⟨_,rfl,?_⟩;have n0_:=Aside0.mk (Kd.S_lower ho0 (below_size (by repeat (first|(with_reducible first|exact HB.out|apply below_alloc|apply pw_below_drewN|apply below_drew1|refine below_set ?_ (IsS70.ge HI407.out))|exact HB.out))));have n1_:=Aside0.mk (hb);have n2_:=Aside0.mk (hi);clear HB;clear HI407;have HO410:=n0_;have HB:=n1_;have HI407:=n2_;clear n0_ n1_ n2_;(try clear hb);(try clear hb2);(try clear hk);(try clear hi);(try clear ho0)))
 (try simp only [Act.put,List.setIfInBounds_toArray,List.set_cons_zero,List.set_cons_succ])
 go_cut [16] (fun v16 wc=>∃ (kq:Nat) (x16_3:Bool) (x408001_3:Int),v16 = .bool x16_3 ∧ Aside0 (spec_DrawNoticeOk.j0 kq t408 x16_3 t405 x408001_3 = some r) ∧ Aside0 (kq ≤ k) ∧ Aside0 (Kd.S k30 30 wc w.heap.size (fun _=>True) v409 t408) ∧ Aside0 (IsS70 w wc g407 t405 x408001_3) ∧ Aside0 (Below w.heap.size w wc))
 case first =>
  have H:=HC4.out
  clear HC4
  replace H:=Option.bind_eq_some_iff.mp H
  obtain ⟨⟨t412,t413⟩,A70,H⟩:=H
  replace H:(if t412 = 0 then (spec_DrawNoticeOk.j0 k t408 (decide ((t408.length:Int) > 0)) t405 t413) else (spec_DrawNoticeOk.j0 k t408 false t405 t413)) = some r:=H
  have A7:=Aside0.mk A70
  clear A70
  by_cases c8:t412 = 0
  ·rw [if_pos c8] at H
   have c8b0:(t412 == 0) = true:=beq_iff_eq.mpr c8
   have c8b1:(t412 != 0) = false:=bne_eq_false_iff_eq.mpr c8
   clear c8
   (first|rw [c8b0]|(simp only [i64_w,i32_w];rw [c8b0])|skip)
   have H':=Aside0.mk H
   clear H
   go_wp2_with (first|((with_reducible refine gate_callee (f:=36) rfl ?_);refine goesL_ (some 10) rfl rfl Try.func36 (by kernel_rfl) rfl #[.pointer (some ⟨g407,0,none⟩), .int .i64 3] rfl (by (try simp only [List.map_toArray,List.map_cons,List.map_nil]);first|done|rfl|(simp only [List.length_drop,List.length_take];rfl)) ?_;(with_reducible refine (spec_l6Rd_pick.calls k g407 t405 t411 3 t412 t413 w _ ?side1 ?side2 A7.out).mono ?_);(case side1=>repeat (first|(with_reducible first|exact HI407.out|apply IsS70.alloc|apply IsS70.drewN|apply IsS70.drew|apply IsS70.set_1)|exact HI407.out));(case side2=>repeat (first|(with_reducible first|exact HB.out|apply below_alloc|apply pw_below_drewN|apply below_drew1|refine below_set ?_ (IsS70.ge HI407.out))|exact HB.out));rintro e w9 ⟨rfl,hi,hb,hk⟩;refine ⟨_,rfl,?_⟩;have n0_:=Aside0.mk (Kd.S_mono (Kd.S_keep (IsS70.apartS (show IsS70 w _ g407 t405 t411 from by repeat (first|(with_reducible first|exact HI407.out|apply IsS70.alloc|apply IsS70.drewN|apply IsS70.drew|apply IsS70.set_1)|exact HI407.out)) (by (with_reducible repeat (first|apply Kd.S_alloc|apply Kd.S_drewN|apply Kd.S_drew));exact HO410.out) (by decide)) hk (fun _ h=>h.2)) (fun _ h=>h.1));have n1_:=Aside0.mk (hb);have n2_:=Aside0.mk (hi);clear HO410;clear HB;clear HI407;have HO410:=n0_;have HB:=n1_;have HI407:=n2_;clear n0_ n1_ n2_;(try clear hb);(try clear hb2);(try clear hk);(try clear hi);obtain ⟨Ao10,co10,eo10⟩:=Kd.S_slice HO410.out;subst eo10))
   go_meet
   case rel=>exact ⟨_,(decide ((t408.length:Int) > 0)),(t413),(by first|rfl|(simp;done)|(simp only [i64_w,i32_w];done)|(simp only [i64_w,i32_w];rfl)|(simp [*];done)|(simp [emp_bne,emp_beq];done)),H',⟨by first|omega|exact Nat.le_refl _⟩,⟨by (with_reducible repeat (first|apply Kd.S_alloc|apply Kd.S_drewN|apply Kd.S_drew));exact HO410.out⟩,⟨by repeat (first|(with_reducible first|exact HI407.out|apply IsS70.alloc|apply IsS70.drewN|apply IsS70.drew|apply IsS70.set_1)|exact HI407.out)⟩,⟨by repeat (first|(with_reducible first|exact HB.out|apply below_alloc|apply pw_below_drewN|apply below_drew1|refine below_set ?_ (IsS70.ge HI407.out))|exact HB.out)⟩⟩
  ·rw [if_neg c8] at H
   have c8b0:(t412 == 0) = false:=beq_eq_false_iff_ne.mpr c8
   have c8b1:(t412 != 0) = true:=bne_iff_ne.mpr c8
   (first|rw [c8b0]|(simp only [i64_w,i32_w];rw [c8b0])|skip)
   have H':=Aside0.mk H
   clear H
   go_wp2_with (first|((with_reducible refine gate_callee (f:=36) rfl ?_);refine goesL_ (some 10) rfl rfl Try.func36 (by kernel_rfl) rfl #[.pointer (some ⟨g407,0,none⟩), .int .i64 3] rfl (by (try simp only [List.map_toArray,List.map_cons,List.map_nil]);first|done|rfl|(simp only [List.length_drop,List.length_take];rfl)) ?_;(with_reducible refine (spec_l6Rd_pick.calls k g407 t405 t411 3 t412 t413 w _ ?side1 ?side2 A7.out).mono ?_);(case side1=>repeat (first|(with_reducible first|exact HI407.out|apply IsS70.alloc|apply IsS70.drewN|apply IsS70.drew|apply IsS70.set_1)|exact HI407.out));(case side2=>repeat (first|(with_reducible first|exact HB.out|apply below_alloc|apply pw_below_drewN|apply below_drew1|refine below_set ?_ (IsS70.ge HI407.out))|exact HB.out));rintro e w11 ⟨rfl,hi,hb,hk⟩;refine ⟨_,rfl,?_⟩;have n0_:=Aside0.mk (Kd.S_mono (Kd.S_keep (IsS70.apartS (show IsS70 w _ g407 t405 t411 from by repeat (first|(with_reducible first|exact HI407.out|apply IsS70.alloc|apply IsS70.drewN|apply IsS70.drew|apply IsS70.set_1)|exact HI407.out)) (by (with_reducible repeat (first|apply Kd.S_alloc|apply Kd.S_drewN|apply Kd.S_drew));exact HO410.out) (by decide)) hk (fun _ h=>h.2)) (fun _ h=>h.1));have n1_:=Aside0.mk (hb);have n2_:=Aside0.mk (hi);clear HO410;clear HB;clear HI407;have HO410:=n0_;have HB:=n1_;have HI407:=n2_;clear n0_ n1_ n2_;(try clear hb);(try clear hb2);(try clear hk);(try clear hi)))
   go_meet
   case rel=>exact ⟨_,(false),(t413),(by first|rfl|(simp;done)|(simp only [i64_w,i32_w];done)|(simp only [i64_w,i32_w];rfl)|(simp [*];done)|(simp [emp_bne,emp_beq];done)),H',⟨by first|omega|exact Nat.le_refl _⟩,⟨by (with_reducible repeat (first|apply Kd.S_alloc|apply Kd.S_drewN|apply Kd.S_drew));exact HO410.out⟩,⟨by repeat (first|(with_reducible first|exact HI407.out|apply IsS70.alloc|apply IsS70.drewN|apply IsS70.drew|apply IsS70.set_1)|exact HI407.out)⟩,⟨by repeat (first|(with_reducible first|exact HB.out|apply below_alloc|apply pw_below_drewN|apply below_drew1|refine below_set ?_ (IsS70.ge HI407.out))|exact HB.out)⟩⟩
 case rest =>
  clear HC4
  try clear c1
  try clear c2
  try clear p2
  try clear c3
  try clear c8
  try clear c8b0
  try clear c8b1
  obtain ⟨kq,x16_3,x408001_3,rfl,HA,HJ3,HO_4,HI407,HB⟩:=hcut
  cases kq with
  | zero=>exact absurd HA.out (by simp [spec_DrawNoticeOk.j0])
  | succ kj3 =>
   have H:=HA.out
   clear HA
   simp only [spec_DrawNoticeOk.j0] at H
   by_cases c12:x16_3 = true
   ·subst c12
    have H1:((some (([(-1),21,0]:List Int):List Int)).bind fun y414=>((spec_l6Rd_pick.f kj3 t405 x408001_3 3).bind fun bt417=>(if 0 ≤ bt417.1 then (if bt417.1 < (y414.length:Int) then (if 0 < (t408.length:Int) then ((some (t408.set (0:Int).toNat (⟨(rd_T30 t408 0).f0,(rd_T30 t408 0).f1,rd y414 bt417.1⟩:S30):List (S30))).bind fun y420=>((spec_l6Rd_pick.f kj3 t405 bt417.2 2).bind fun bt421=>(if bt421.1 = 0 then (if ((rd_T30 y420 0).f1).length < 5864062014805 then (some (y420.set (0:Int).toNat (⟨(rd_T30 y420 0).f0,(((rd_T30 y420 0).f1) ++ [(⟨false,(⟨#[97]⟩:ByteArray)⟩:S57)]),(rd_T30 y420 0).f2⟩:S30))) else (none)) else (some y420)))) else (none)) else (none)) else (none)))) = some r:=by rw [if_pos rfl] at H;exact H
    clear H
    have H:=H1
    clear H1
    obtain ⟨y414,hy414⟩:∃ y_:List Int,y_ = (([(-1),21,0]:List Int)):=⟨_,rfl⟩
    replace H:((spec_l6Rd_pick.f kj3 t405 x408001_3 3).bind fun bt417=>(if 0 ≤ bt417.1 then (if bt417.1 < (y414.length:Int) then (if 0 < (t408.length:Int) then ((some (t408.set (0:Int).toNat (⟨(rd_T30 t408 0).f0,(rd_T30 t408 0).f1,rd y414 bt417.1⟩:S30):List (S30))).bind fun y420=>((spec_l6Rd_pick.f kj3 t405 bt417.2 2).bind fun bt421=>(if bt421.1 = 0 then (if ((rd_T30 y420 0).f1).length < 5864062014805 then (some (y420.set (0:Int).toNat (⟨(rd_T30 y420 0).f0,(((rd_T30 y420 0).f1) ++ [(⟨false,(⟨#[97]⟩:ByteArray)⟩:S57)]),(rd_T30 y420 0).f2⟩:S30))) else (none)) else (some y420)))) else (none)) else (none)) else (none))) = some r:=by first|(rw [hy414];with_reducible exact H)|(have H2_:=(Option.bind_some _ _).symm.trans H;rw [hy414];with_reducible exact H2_)|(have H2_:=(Option.bind_some _ _).symm.trans H;with_reducible exact H2_)|with_reducible exact H|(rw [hy414];exact H)|exact H
    have Ny414:=Aside0.mk hy414
    clear hy414
    replace H:=Option.bind_eq_some_iff.mp H
    obtain ⟨⟨t417,t418⟩,A130,H⟩:=H
    replace H:(if 0 ≤ t417 then (if t417 < (y414.length:Int) then (if 0 < (t408.length:Int) then ((some (t408.set (0:Int).toNat (⟨(rd_T30 t408 0).f0,(rd_T30 t408 0).f1,rd y414 t417⟩:S30):List (S30))).bind fun y420=>((spec_l6Rd_pick.f kj3 t405 t418 2).bind fun bt421=>(if bt421.1 = 0 then (if ((rd_T30 y420 0).f1).length < 5864062014805 then (some (y420.set (0:Int).toNat (⟨(rd_T30 y420 0).f0,(((rd_T30 y420 0).f1) ++ [(⟨false,(⟨#[97]⟩:ByteArray)⟩:S57)]),(rd_T30 y420 0).f2⟩:S30))) else (none)) else (some y420)))) else (none)) else (none)) else (none)) = some r:=H
    have A13:=Aside0.mk A130
    clear A130
    by_cases c14:0 ≤ t417
    ·rw [if_pos c14] at H
     have c14b0:decide (0 ≤ t417) = true:=decide_eq_true c14
     clear c14
     by_cases c15:t417 < (y414.length:Int)
     ·rw [if_pos c15] at H
      have c15b0:decide (t417 < (y414.length:Int)) = true:=decide_eq_true c15
      clear c15
      by_cases c16:0 < (t408.length:Int)
      ·rw [if_pos c16] at H
       have c16b0:decide (0 < (t408.length:Int)) = true:=decide_eq_true c16
       have c16b1:decide (0 < t408.length) = true:=decide_eq_true (by omega)
       clear c16
       obtain ⟨y420,hy420⟩:∃ y_:List (S30),y_ = (t408.set (0:Int).toNat (⟨(rd_T30 t408 0).f0,(rd_T30 t408 0).f1,rd y414 t417⟩:S30)):=⟨_,rfl⟩
       replace H:((spec_l6Rd_pick.f kj3 t405 t418 2).bind fun bt421=>(if bt421.1 = 0 then (if ((rd_T30 y420 0).f1).length < 5864062014805 then (some (y420.set (0:Int).toNat (⟨(rd_T30 y420 0).f0,(((rd_T30 y420 0).f1) ++ [(⟨false,(⟨#[97]⟩:ByteArray)⟩:S57)]),(rd_T30 y420 0).f2⟩:S30))) else (none)) else (some y420))) = some r:=by first|(rw [hy420];with_reducible exact H)|(have H2_:=(Option.bind_some _ _).symm.trans H;rw [hy420];with_reducible exact H2_)|(have H2_:=(Option.bind_some _ _).symm.trans H;with_reducible exact H2_)|with_reducible exact H|(rw [hy420];exact H)|exact H
       have Ny420:=Aside0.mk hy420
       clear hy420
       replace H:=Option.bind_eq_some_iff.mp H
       obtain ⟨⟨t421,t422⟩,A180,H⟩:=H
       replace H:(if t421 = 0 then (if ((rd_T30 y420 0).f1).length < 5864062014805 then (some (y420.set (0:Int).toNat (⟨(rd_T30 y420 0).f0,(((rd_T30 y420 0).f1) ++ [(⟨false,(⟨#[97]⟩:ByteArray)⟩:S57)]),(rd_T30 y420 0).f2⟩:S30))) else (none)) else (some y420)) = some r:=H
       have A18:=Aside0.mk A180
       clear A180
       by_cases c19:t421 = 0
       ·rw [if_pos c19] at H
        have c19b0:(t421 == 0) = true:=beq_iff_eq.mpr c19
        have c19b1:(t421 != 0) = false:=bne_eq_false_iff_eq.mpr c19
        clear c19
        by_cases c20:((rd_T30 y420 0).f1).length < 5864062014805
        ·rw [if_pos c20] at H
         have LMc20:=Aside0.mk c20
         clear c20
         obtain ⟨y424,hy424⟩:∃ y_:List (S57),y_ = (((rd_T30 y420 0).f1) ++ [(⟨false,(⟨#[97]⟩:ByteArray)⟩:S57)]):=⟨_,rfl⟩
         replace H:(some (y420.set (0:Int).toNat (⟨(rd_T30 y420 0).f0,y424,(rd_T30 y420 0).f2⟩:S30))) = some r:=by first|(rw [hy424];with_reducible exact H)|(have H2_:=(Option.bind_some _ _).symm.trans H;rw [hy424];with_reducible exact H2_)|(have H2_:=(Option.bind_some _ _).symm.trans H;with_reducible exact H2_)|with_reducible exact H|(rw [hy424];exact H)|exact H
         have Ny424:=Aside0.mk hy424
         clear hy424
         obtain ⟨y427,hy427⟩:∃ y_:List (S30),y_ = (y420.set (0:Int).toNat (⟨(rd_T30 y420 0).f0,y424,(rd_T30 y420 0).f2⟩:S30)):=⟨_,rfl⟩
         replace H:(some y427) = some r:=by first|(rw [hy427];with_reducible exact H)|(have H2_:=(Option.bind_some _ _).symm.trans H;rw [hy427];with_reducible exact H2_)|(have H2_:=(Option.bind_some _ _).symm.trans H;with_reducible exact H2_)|with_reducible exact H|(rw [hy427];exact H)|exact H
         have Ny427:=Aside0.mk hy427
         clear hy427
         obtain rfl:=Option.some.inj H
         go_wp2_with (first|((with_reducible refine gate_dst (N:=18) rfl ?_);(try (refine gate_guard (by rfl) ?_;dsimp only));refine Kd.R_lit (Kd.int .i64) _ 3 ?hg (N:=18) ?hd (xs:=([(-1),21,0]:List Int)) (inner:=[.int .i64 (-1), .int .i64 21, .int .i64 0]) (ok:=fun _=>True) (okp:=fun _=>True) ?hr ?hp (fun _ hk=>hk) trivial (Below.refl _ _) (Nat.le_refl _) (by simp) ?_;(case hd=>rfl);(case hg=>rfl);(case hr=>first|(go_simp;done)|(go_simp;rfl));(case hp=>exact (Reps.one (show Kd.M (Kd.int .i64) _ _ _ (-1) [.int .i64 (-1)] from rfl) (Reps.one (show Kd.M (Kd.int .i64) _ _ _ 21 [.int .i64 21] from rfl) (Reps.one (show Kd.M (Kd.int .i64) _ _ _ 0 [.int .i64 0] from rfl) (Reps.none _ _)))));intro v415 w22 ho23 hb hg_ hnew_;clear hg_ hnew_;(first|rw [← Ny414.out] at ho23|(simp only [Int.reduceToNat] at ho23;rw [← Ny414.out] at ho23));have n0_:=Aside0.mk (Kd.S_below (by (with_reducible repeat (first|apply Kd.S_alloc|apply Kd.S_drewN|apply Kd.S_drew));exact HO_4.out) hb);have n1_:=Aside0.mk (Kd.R_lower ho23 (below_size (by repeat (first|(with_reducible first|exact HB.out|apply below_alloc|apply pw_below_drewN|apply below_drew1|refine below_set ?_ (IsS70.ge HI407.out))|exact HB.out))));have n2_:=Aside0.mk (IsS70.below (by repeat (first|(with_reducible first|exact HI407.out|apply IsS70.alloc|apply IsS70.drewN|apply IsS70.drew|apply IsS70.set_1)|exact HI407.out)) hb);have n3_:=Aside0.mk (below_step (by repeat (first|(with_reducible first|exact HB.out|apply below_alloc|apply pw_below_drewN|apply below_drew1|refine below_set ?_ (IsS70.ge HI407.out))|exact HB.out)) hb);clear HO_4;clear HI407;clear HB;have HO_4:=n0_;have HO416:=n1_;have HI407:=n2_;have HB:=n3_;clear n0_ n1_ n2_ n3_;clear hb ho23)|((with_reducible refine gate_callee (f:=36) rfl ?_);refine goesL_ (some 20) rfl rfl Try.func36 (by kernel_rfl) rfl #[.pointer (some ⟨g407,0,none⟩), .int .i64 3] rfl (by (try simp only [List.map_toArray,List.map_cons,List.map_nil]);first|done|rfl|(simp only [List.length_drop,List.length_take];rfl)) ?_;(with_reducible refine (spec_l6Rd_pick.calls kj3 g407 t405 x408001_3 3 t417 t418 w _ ?side1 ?side2 A13.out).mono ?_);(case side1=>repeat (first|(with_reducible first|exact HI407.out|apply IsS70.alloc|apply IsS70.drewN|apply IsS70.drew|apply IsS70.set_1)|exact HI407.out));(case side2=>repeat (first|(with_reducible first|exact HB.out|apply below_alloc|apply pw_below_drewN|apply below_drew1|refine below_set ?_ (IsS70.ge HI407.out))|exact HB.out));rintro e w24 ⟨rfl,hi,hb,hk⟩;refine ⟨_,rfl,?_⟩;have n0_:=Aside0.mk (Kd.S_mono (Kd.S_keep (IsS70.apartS (show IsS70 w _ g407 t405 x408001_3 from by repeat (first|(with_reducible first|exact HI407.out|apply IsS70.alloc|apply IsS70.drewN|apply IsS70.drew|apply IsS70.set_1)|exact HI407.out)) (by (with_reducible repeat (first|apply Kd.S_alloc|apply Kd.S_drewN|apply Kd.S_drew));exact HO_4.out) (by decide)) hk (fun _ h=>h.2)) (fun _ h=>h.1));have n1_:=Aside0.mk (Kd.R_mono (Kd.R_keep (IsS70.apart (show IsS70 w _ g407 t405 x408001_3 from by repeat (first|(with_reducible first|exact HI407.out|apply IsS70.alloc|apply IsS70.drewN|apply IsS70.drew|apply IsS70.set_1)|exact HI407.out)) (by (with_reducible repeat (first|apply Kd.R_alloc|apply Kd.R_drewN|apply Kd.R_drew));exact HO416.out) (by decide)) hk (fun _ h=>h.2)) (fun _ h=>h.1));have n2_:=Aside0.mk (hb);have n3_:=Aside0.mk (hi);clear HO_4;clear HO416;clear HB;clear HI407;have HO_4:=n0_;have HO416:=n1_;have HB:=n2_;have HI407:=n3_;clear n0_ n1_ n2_ n3_;(try clear hb);(try clear hb2);(try clear hk);(try clear hi);obtain ⟨Ao25,co25,eo25⟩:=Kd.R_slice HO416.out;subst eo25;have p419:0 ≤ (t417:Int):=of_decide_eq_true (by first|(with_reducible assumption)|assumption);have q419:t417 < (y414.length:Int):=of_decide_eq_true (by first|(with_reducible assumption)|assumption);obtain ⟨ad419,e419,hx419_0⟩:=Kd.at_int (Kd.R_reads' HO416.out).2.2 t417 p419 q419;cases e419;replace p419:=eq_true p419;replace q419:=eq_true q419;have p17:0 ≤ (0:Int):=(by omega);have q17:(0:Int) < ((t408.length:Int):Int):=of_decide_eq_true (by first|(with_reducible assumption)|assumption);have qi17:(0 < t408.length) = True:=eq_true (by omega);obtain ⟨go17,co17,eo17,gb17,gl17,cl17,HG17⟩:=Kd.S_form HO_4.out (by omega);(first|cases eo17|(injection eo17 with ea_ en_ ec_;(first|subst ea_|(injection ea_ with ea_;subst ea_));subst ec_;clear en_));have GB17:=Aside0.mk gb17;have GG17:=Aside0.mk HG17;clear gb17 gl17 HG17;obtain ⟨_,ce17,hcl17,hM17,hcc17,hfr17,_,_⟩:=Kd.S_elem HO_4.out z30 (0:Int) p17 q17;obtain ⟨ve17_0,ve17_1,rfl,ge17_0,ge17_1⟩:=k30_openM hM17;have hx17_0:w24.cell? ⟨go17,(0:Int).toNat * 3,none⟩ = some (ve17_0):=hcc17 0 _ rfl;have hx17_1:w24.cell? ⟨go17,(0:Int).toNat * 3 + 1,none⟩ = some (ve17_1):=hcc17 1 _ rfl;have hx17_2:w24.cell? ⟨go17,(0:Int).toNat * 3 + 2,none⟩ = some (.int .i64 ((rd_T30 t408 0).f2)):=hcc17 2 _ rfl;have hf17_0:w24.frozen? ⟨go17,(0:Int).toNat * 3,none⟩ = false:=hfr17 0;have hf17_1:w24.frozen? ⟨go17,(0:Int).toNat * 3 + 1,none⟩ = false:=hfr17 1;have hf17_2:w24.frozen? ⟨go17,(0:Int).toNat * 3 + 2,none⟩ = false:=hfr17 2;clear hcl17 hcc17 hfr17 hM17;(try rw [show ((0:Int)).toNat = 0 from rfl] at hx17_0);(try simp only [Nat.reduceMul,Nat.zero_mul,Nat.zero_add,Nat.reduceAdd] at hx17_0);(try rw [show ((0:Int)).toNat = 0 from rfl] at hf17_0);(try simp only [Nat.reduceMul,Nat.zero_mul,Nat.zero_add,Nat.reduceAdd] at hf17_0);(try rw [show ((0:Int)).toNat = 0 from rfl] at hx17_1);(try simp only [Nat.reduceMul,Nat.zero_mul,Nat.zero_add,Nat.reduceAdd] at hx17_1);(try rw [show ((0:Int)).toNat = 0 from rfl] at hf17_1);(try simp only [Nat.reduceMul,Nat.zero_mul,Nat.zero_add,Nat.reduceAdd] at hf17_1);(try rw [show ((0:Int)).toNat = 0 from rfl] at hx17_2);(try simp only [Nat.reduceMul,Nat.zero_mul,Nat.zero_add,Nat.reduceAdd] at hx17_2);(try rw [show ((0:Int)).toNat = 0 from rfl] at hf17_2);(try simp only [Nat.reduceMul,Nat.zero_mul,Nat.zero_add,Nat.reduceAdd] at hf17_2);replace p17:=eq_true p17;replace q17:=eq_true q17;have HX26:=Aside0.mk (show Kd.S k30 30 w24 w.heap.size (fun k_=>((fun _=>True)) k_ ∧ ¬ ((fun _=>False)) k_) (.slice (some ⟨go17,0,none⟩) t408.length co17) t408 from (by (with_reducible repeat (first|apply Kd.S_alloc|apply Kd.S_drewN|apply Kd.S_drew));exact Kd.S_mono HO_4.out (fun k_ hk=>⟨trivial,fun e_=>e_⟩)));obtain ⟨oki26,ce26,hcl26,hM26,hcc26,hfr26,hoki26,hH26⟩:=Kd.S_elem HX26.out z30 (0:Int) (by omega) (by have h_:(0:Int) < ((t408.length:Int):Int):=of_decide_eq_true (by first|(with_reducible assumption)|assumption);first|exact h_|(have e_:=(Kd.S_reads' HO_4.out).1;omega)|simpa using h_);obtain ⟨ve26_0,ve26_1,rfl,ge26_0,ge26_1⟩:=k30_openM hM26;have HP26:=Kd.S_seg hH26 (by omega) (by have h_:(0:Int) < ((t408.length:Int):Int):=of_decide_eq_true (by first|(with_reducible assumption)|assumption);first|exact h_|(have e_:=(Kd.S_reads' HO_4.out).1;omega)|simpa using h_) (seg:=[.int .i64 (rd y414 t417)]) (j:=2) (show 3 ≤ 3 from by decide) (x':=(⟨(rd_T30 t408 0).f0,(rd_T30 t408 0).f1,rd y414 t417⟩:S30)) (k30_mkM _ _ _ (⟨(rd_T30 t408 0).f0,(rd_T30 t408 0).f1,rd y414 t417⟩:S30) (Kd.R_mono ge26_0 (fun _ h_=>Or.inl h_)) (Kd.R_mono ge26_1 (fun _ h_=>Or.inl h_))) (fun _ hk=>hk) (fun k_ hk_=>hk_.elim);have hx26_2:=hcc26 2 _ rfl;(try simp only [show (k30).sz = 3 from rfl,Nat.mul_one,Nat.add_zero] at hx26_2);(try rw [show ((0:Int)).toNat = 0 from rfl] at hx26_2);(try simp only [Nat.reduceMul,Nat.zero_mul,Nat.zero_add,Nat.reduceAdd] at hx26_2);have hf26_2:=hfr26 2;(try simp only [show (k30).sz = 3 from rfl,Nat.mul_one,Nat.add_zero] at hf26_2);(try rw [show ((0:Int)).toNat = 0 from rfl] at hf26_2);(try simp only [Nat.reduceMul,Nat.zero_mul,Nat.zero_add,Nat.reduceAdd] at hf26_2);clear hcl26 hcc26 hfr26 hM26 hoki26 hH26)|((with_reducible refine gate_store (t:=3) (p:=24) rfl ?_);refine store_event (t:=3) (p:=24) (v:=?vo_w27) (w1:=(w24.setCell ⟨go17,2,none⟩ (.int .i64 (rd y414 t417)))) ?hg ?ho ?hn ?hr ?_;(case ho=>rfl);(case hg=>rfl);(case hn=>rfl);(case hr=>first|(go_simp;done)|(go_simp;rfl));intro w27 hw;have hg:w24.grownBy w27 (some go17):=(by rw [hw];exact HP26.2);have hp_:Kd.S k30 30 w27 w.heap.size (fun _=>True) (.slice (some ⟨go17,0,none⟩) t408.length co17) y420:=(by rw [hw,Ny420.out];exact HP26.1);clear HP26;have n0_:=Aside0.mk (hp_);have n1_:=Aside0.mk (IsS70.grown (by repeat (first|(with_reducible first|exact HI407.out|apply IsS70.alloc|apply IsS70.drewN|apply IsS70.drew|apply IsS70.set_1)|exact HI407.out)) hg (IsS70.own_neS HI407.out HO_4.out (by decide)));have n2_:=Aside0.mk (Kd.R_over' (v:=(.slice (some ⟨go17,0,none⟩) t408.length co17)) (by (with_reducible repeat (first|apply Kd.R_alloc|apply Kd.R_drewN|apply Kd.R_drew));exact HO416.out) (Kd.S_typed HO_4.out) (by decide) hg);have n3_:=Aside0.mk ((by rw [hw];exact below_set (HB.out) GB17.out:Below w.heap.size w w27));clear HO_4;clear HI407;clear HO416;clear HB;have HO_4:=n0_;have HI407:=n1_;have HO416:=n2_;have HB:=n3_;clear n0_ n1_ n2_ n3_;clear hg hw hp_)|((with_reducible refine gate_callee (f:=36) rfl ?_);refine goesL_ (some 26) rfl rfl Try.func36 (by kernel_rfl) rfl #[.pointer (some ⟨g407,0,none⟩), .int .i64 2] rfl (by (try simp only [List.map_toArray,List.map_cons,List.map_nil]);first|done|rfl|(simp only [List.length_drop,List.length_take];rfl)) ?_;(with_reducible refine (spec_l6Rd_pick.calls kj3 g407 t405 t418 2 t421 t422 w _ ?side1 ?side2 A18.out).mono ?_);(case side1=>repeat (first|(with_reducible first|exact HI407.out|apply IsS70.alloc|apply IsS70.drewN|apply IsS70.drew|apply IsS70.set_1)|exact HI407.out));(case side2=>repeat (first|(with_reducible first|exact HB.out|apply below_alloc|apply pw_below_drewN|apply below_drew1|refine below_set ?_ (IsS70.ge HI407.out))|exact HB.out));rintro e w28 ⟨rfl,hi,hb,hk⟩;refine ⟨_,rfl,?_⟩;have n0_:=Aside0.mk (Kd.S_mono (Kd.S_keep (IsS70.apartS (show IsS70 w _ g407 t405 t418 from by repeat (first|(with_reducible first|exact HI407.out|apply IsS70.alloc|apply IsS70.drewN|apply IsS70.drew|apply IsS70.set_1)|exact HI407.out)) (by (with_reducible repeat (first|apply Kd.S_alloc|apply Kd.S_drewN|apply Kd.S_drew));exact HO_4.out) (by decide)) hk (fun _ h=>h.2)) (fun _ h=>h.1));have n1_:=Aside0.mk (Kd.R_mono (Kd.R_keep (IsS70.apart (show IsS70 w _ g407 t405 t418 from by repeat (first|(with_reducible first|exact HI407.out|apply IsS70.alloc|apply IsS70.drewN|apply IsS70.drew|apply IsS70.set_1)|exact HI407.out)) (by (with_reducible repeat (first|apply Kd.R_alloc|apply Kd.R_drewN|apply Kd.R_drew));exact HO416.out) (by decide)) hk (fun _ h=>h.2)) (fun _ h=>h.1));have n2_:=Aside0.mk (hb);have n3_:=Aside0.mk (hi);clear HO_4;clear HO416;clear HB;clear HI407;have HO_4:=n0_;have HO416:=n1_;have HB:=n2_;have HI407:=n3_;clear n0_ n1_ n2_ n3_;(try clear hb);(try clear hb2);(try clear hk);(try clear hi);have p423:0 ≤ (0:Int):=(by omega);have q423:0 < (y420.length:Int):=(by have h_:(0:Int) < ((t408.length:Int):Int):=of_decide_eq_true (by first|(with_reducible assumption)|assumption);first|(have e_:=(Kd.S_reads' HO_4.out).1;omega)|simpa only [Ny420.out,List.length_set] using h_);have ql423:((0:Int) < ((t408.length:Int):Int)) = True:=eq_true (of_decide_eq_true (by first|(with_reducible assumption)|assumption));(try have qn423:(0 < t408.length) = True:=eq_true (by have h_:(0:Int) < ((t408.length:Int):Int):=of_decide_eq_true (by first|(with_reducible assumption)|assumption);omega));obtain ⟨ad423,A423_0,c423_0,A423_1,c423_1,e423,hx423_0,hx423_1,hx423_2,hl423_0,hi423_0,hl423_1,hi423_1⟩:=at_T30 (Kd.S_reads' HO_4.out).2.2 0 p423 q423;obtain rfl:(⟨go17,0,none⟩:Addr) = ad423:=(by injection e423);obtain ⟨ce423,hce423,hMe423,hcc423⟩:=Kd.S_get HO_4.out z30 0 p423 (by first|exact q423|exact of_decide_eq_true (by first|(with_reducible assumption)|assumption)|(have e_:=(Kd.S_reads' HO_4.out).1;omega));obtain ⟨ve423_0,ve423_1,rfl,ge423_0,ge423_1⟩:=k30_openM hMe423;have hv423_0:=hcc423 0 _ rfl;rw [Nat.add_zero] at hv423_0;replace hv423_0:=Option.some.inj (hv423_0.symm.trans hx423_0);rw [hv423_0] at ge423_0;have HL423_0:=Aside0.mk (show Kd.R Kd.string 9 _ _ _ _ ((rd_T30 y420 0).f0) from ge423_0);clear hv423_0 ge423_0;have HX423_0:=Aside0.mk hx423_0;have hv423_1:=hcc423 1 _ rfl;rw [add_field _ _ 1 (by omega)] at hv423_1;replace hv423_1:=Option.some.inj (hv423_1.symm.trans hx423_1);rw [hv423_1] at ge423_1;have HL423_1:=Aside0.mk (show Kd.R k57 57 _ _ _ _ ((rd_T30 y420 0).f1) from ge423_1);clear hv423_1 ge423_1;have HX423_1:=Aside0.mk hx423_1;clear hcc423 hce423;(first|simp only [add_plain] at hx423_0|simp only [add_at] at hx423_0|simp only [Addr.add,Nat.zero_add] at hx423_0|skip);(first|simp only [add_plain] at hx423_1|simp only [add_at] at hx423_1|simp only [Addr.add,Nat.zero_add] at hx423_1|skip);(first|simp only [add_plain] at hx423_2|simp only [add_at] at hx423_2|simp only [Addr.add,Nat.zero_add] at hx423_2|skip);have qi423:(0 < y420.length) = True:=eq_true (by omega);(try rw [show ((0:Int)).toNat = 0 from rfl] at hx423_0);(try rw [show 0 * 3 = 0 from rfl] at hx423_0);(try rw [Addr.add_zero'] at hx423_0);(try rw [show ((0:Int)).toNat = 0 from rfl] at hx423_1);(try rw [show 0 * 3 = 0 from rfl] at hx423_1);(try rw [Addr.add_zero'] at hx423_1);(try rw [show ((0:Int)).toNat = 0 from rfl] at hx423_2);(try rw [show 0 * 3 = 0 from rfl] at hx423_2);(try rw [Addr.add_zero'] at hx423_2);have HR423_0:=Aside0.mk hi423_0;have HC423_0:=Aside0.mk hl423_0;clear hi423_0 hl423_0;have HR423_1:=Aside0.mk hi423_1;have HC423_1:=Aside0.mk hl423_1;clear hi423_1 hl423_1;replace p423:=eq_true p423;replace q423:=eq_true q423;obtain ⟨oki29,ce29,hcl29,hM29,hcc29,_,_,hH29⟩:=Kd.S_elem HO_4.out z30 (0:Int) (by omega) (by have h_:(0:Int) < ((t408.length:Int):Int):=of_decide_eq_true (by first|(with_reducible assumption)|assumption);first|exact h_|(have e_:=(Kd.S_reads' HO_4.out).1;omega)|simpa using h_);obtain ⟨ve29_0,ve29_1,rfl,ge29_0,ge29_1⟩:=k30_openM hM29;have hv29:=hcc29 1 _ rfl;have hX29:=HX423_1.out;(try simp only [add_plain] at hX29);(try simp only [Nat.add_zero] at hv29);replace hv29:=Option.some.inj (hv29.symm.trans hX29);subst hv29;clear hX29 hcc29 hcl29;have UU29:=Aside0.mk (show Kd.R k57 57 _ w.heap.size oki29 (.slice A423_1 ((rd_T30 y420 0).f1).length c423_1) ((rd_T30 y420 0).f1) from ge29_1);have HH29:=Aside0.mk hH29;have HN29:=Aside0.mk (Kd.S_reads' HO_4.out).1;have HE29_0:=Aside0.mk ge29_0;clear hH29 ge29_0 ge29_1)|((with_reducible refine gate_builtin (b:=.append) (xs:=#[.tmp 32, .tmp 34]) rfl ?_);(try (refine gate_guard (by rfl) ?_;dsimp only));at_builtin;refine Kd.R_append k57 (w0:=w) w.heap.size rfl (.tmp 32) (.tmp 34) 28 57 (.agg #[(.bool false),(.string ⟨#[]⟩)]) 24 rfl Try.underlying28 info57 rfl (by decide) (by omega) (.slice A423_1 ((rd_T30 y420 0).f1).length c423_1) ((rd_T30 y420 0).f1) (⟨false,(⟨#[97]⟩:ByteArray)⟩:S57) [.bool false, .string (⟨#[97]⟩:ByteArray)] (fun k_=>oki29 k_ ∨ ((fun _=>True)) k_ ∧ w28.heap.size ≤ k_) (fun _=>False) rfl rfl ?aP (fun _ hk=>hk.elim) ?aF ?aO ?aB ?aS ?aL ?_;(case aP=>exact k57_mkM _ _ _ (⟨false,(⟨#[97]⟩:ByteArray)⟩:S57));(case aB=>exact (by repeat (first|(with_reducible first|exact HB.out|apply below_alloc|apply pw_below_drewN|apply below_drew1|refine below_set ?_ (IsS70.ge HI407.out))|exact HB.out)));(case aF=>exact (fun k_ hk=>.inr ⟨trivial,hk⟩));(case aO=>exact (by (with_reducible repeat (first|apply Kd.R_alloc|apply Kd.R_drewN|apply Kd.R_drew));exact Kd.R_mono UU29.out (fun _ hk=>.inl hk)));(case aS=>exact (below_size (by repeat (first|(with_reducible first|exact HB.out|apply below_alloc|apply pw_below_drewN|apply below_drew1|refine below_set ?_ (IsS70.ge HI407.out))|exact HB.out))));(case aL=>have:=LMc20.out;omega);intro v425 w30 ho hb hg hat;rw [← Ny424.out] at ho;have n0_:=Aside0.mk (IsS70.grown (by repeat (first|(with_reducible first|exact HI407.out|apply IsS70.alloc|apply IsS70.drewN|apply IsS70.drew|apply IsS70.set_1)|exact HI407.out)) hg (IsS70.own_ne HI407.out HL423_1.out (by decide)));have n1_:=Aside0.mk (Kd.R_over' (v:=(.slice A423_1 ((rd_T30 y420 0).f1).length c423_1)) (by (with_reducible repeat (first|apply Kd.R_alloc|apply Kd.R_drewN|apply Kd.R_drew));exact HO416.out) (Kd.R_typed HL423_1.out) (by decide) hg);have n2_:=Aside0.mk (hb);have n3_:=Aside0.mk (Kd.H_grown (Kd.H_widen (by repeat (first|exact HH29.out|refine Kd.H_alloc ?_ _|refine Kd.H_drewN ?_ _|refine Kd.H_drew ?_))) hg (fun k_ e_=>.inl (UU29.out.1 k_ e_)));have n4_:=Aside0.mk (Kd.R_over' (v:=(.slice A423_1 ((rd_T30 y420 0).f1).length c423_1)) (by (with_reducible repeat (first|apply Kd.R_alloc|apply Kd.R_drewN|apply Kd.R_drew));exact HE29_0.out) (Kd.R_typed UU29.out) (by decide) hg);have n5_:=Aside0.mk (ho);clear HI407;clear HO416;clear HB;clear HH29;clear HE29_0;clear HO_4;clear UU29;clear HL423_0;clear HL423_1;have HI407:=n0_;have HO416:=n1_;have HB:=n2_;have HH29:=n3_;have HE29_0:=n4_;have HO426:=n5_;clear n0_ n1_ n2_ n3_ n4_ n5_;clear ho hb hg hat;have p21:0 ≤ (0:Int):=(by omega);have q21:(0:Int) < ((t408.length:Int):Int):=of_decide_eq_true (by first|(with_reducible assumption)|assumption);replace p21:=eq_true p21;replace q21:=eq_true q21;obtain ⟨Ao33,co33,eo33⟩:=Kd.R_slice HO426.out;subst eo33;obtain ⟨_,_,hraw31,_,_,hcc31,_⟩:=Kd.H_raw HH29.out (by omega) (by have h_:(0:Int) < ((t408.length:Int):Int):=of_decide_eq_true (by first|(with_reducible assumption)|assumption);first|exact h_|(have e_:=(HN29.out);omega)|simpa using h_);obtain ⟨_,hfr31⟩:=Kd.H_at HH29.out (by omega) (by have h_:(0:Int) < ((t408.length:Int):Int):=of_decide_eq_true (by first|(with_reducible assumption)|assumption);first|exact h_|(have e_:=(HN29.out);omega)|simpa using h_);have hx31_0:=hcc31 1 _ rfl;have hf31_0:=hfr31 1;(try rw [show (k30).sz = 3 from rfl] at hx31_0);(try rw [show (k30).sz = 3 from rfl] at hf31_0);(try rw [show ((0:Int)).toNat = 0 from rfl] at hx31_0);(try simp only [Nat.reduceMul,Nat.zero_mul,Nat.zero_add,Nat.reduceAdd] at hx31_0);(try rw [show ((0:Int)).toNat = 0 from rfl] at hf31_0);(try simp only [Nat.reduceMul,Nat.zero_mul,Nat.zero_add,Nat.reduceAdd] at hf31_0);have HP31:=Kd.S_seg0 HH29.out (by omega) (by have h_:(0:Int) < ((t408.length:Int):Int):=of_decide_eq_true (by first|(with_reducible assumption)|assumption);first|exact h_|(have e_:=(HN29.out);omega)|simpa using h_) (seg:=[.slice Ao33 y424.length co33]) (j:=1) (show 2 ≤ 3 from by decide) (x':=(⟨(rd_T30 y420 0).f0,y424,(rd_T30 y420 0).f2⟩:S30)) (k30_mkM _ _ _ (⟨(rd_T30 y420 0).f0,y424,(rd_T30 y420 0).f2⟩:S30) (Kd.R_mono HE29_0.out (fun _ h_=>.inl h_)) HO426.out) (fun _ hk=>hk);clear hcc31 hfr31)|((with_reducible refine gate_store (t:=28) (p:=37) rfl ?_);refine store_event (t:=28) (p:=37) (v:=?vo_w32) (w1:=(w30.setCell ⟨go17,(0:Int).toNat * 3 + 1,none⟩ (.slice Ao33 y424.length co33))) ?hg ?ho ?hn ?hr ?_;(case ho=>rfl);(case hg=>rfl);(case hn=>rfl);(case hr=>first|(go_simp;done)|(go_simp;rfl));intro w32 hw;have hg:w30.grownBy w32 (some go17):=(by rw [hw];exact HP31.2);have hp_:Kd.S k30 30 w32 w.heap.size (fun _=>True) (.slice (some ⟨go17,0,none⟩) t408.length co17) y427:=(by rw [hw,Ny427.out];exact HP31.1);clear HP31;have n0_:=Aside0.mk (IsS70.grown (by repeat (first|(with_reducible first|exact HI407.out|apply IsS70.alloc|apply IsS70.drewN|apply IsS70.drew|apply IsS70.set_1)|exact HI407.out)) hg (IsS70.own_ne HI407.out hraw31 (by decide)));have n1_:=Aside0.mk (Kd.R_over' (v:=(.slice (some ⟨go17,0,none⟩) t408.length co17)) (by (with_reducible repeat (first|apply Kd.R_alloc|apply Kd.R_drewN|apply Kd.R_drew));exact HO416.out) (Kd.R_typed hraw31) (by decide) hg);have n2_:=Aside0.mk ((by rw [hw];exact below_set HB.out GB17.out:Below w.heap.size w w32));have n3_:=Aside0.mk (hp_);clear HI407;clear HO416;clear HB;clear HO426;clear HH29;clear HE29_0;have HI407:=n0_;have HO416:=n1_;have HB:=n2_;have HO_4:=n3_;clear n0_ n1_ n2_ n3_;clear hg hw hp_ hraw31))
         go_ret
         exact ⟨_,by first|rfl|(simp <;> rfl)|(simp [*] <;> rfl),by (with_reducible repeat (first|apply Kd.S_alloc|apply Kd.S_drewN|apply Kd.S_drew));exact HO_4.out,by repeat (first|(with_reducible first|exact HB.out|apply below_alloc|apply pw_below_drewN|apply below_drew1|refine below_set ?_ (IsS70.ge HI407.out))|exact HB.out)⟩
        ·rw [if_neg c20] at H
         exact absurd H (by simp)
       ·rw [if_neg c19] at H
        have c19b0:(t421 == 0) = false:=beq_eq_false_iff_ne.mpr c19
        have c19b1:(t421 != 0) = true:=bne_iff_ne.mpr c19
        obtain rfl:=Option.some.inj H
        go_wp2_with (first|((with_reducible refine gate_dst (N:=18) rfl ?_);(try (refine gate_guard (by rfl) ?_;dsimp only));refine Kd.R_lit (Kd.int .i64) _ 3 ?hg (N:=18) ?hd (xs:=([(-1),21,0]:List Int)) (inner:=[.int .i64 (-1), .int .i64 21, .int .i64 0]) (ok:=fun _=>True) (okp:=fun _=>True) ?hr ?hp (fun _ hk=>hk) trivial (Below.refl _ _) (Nat.le_refl _) (by simp) ?_;(case hd=>rfl);(case hg=>rfl);(case hr=>first|(go_simp;done)|(go_simp;rfl));(case hp=>exact (Reps.one (show Kd.M (Kd.int .i64) _ _ _ (-1) [.int .i64 (-1)] from rfl) (Reps.one (show Kd.M (Kd.int .i64) _ _ _ 21 [.int .i64 21] from rfl) (Reps.one (show Kd.M (Kd.int .i64) _ _ _ 0 [.int .i64 0] from rfl) (Reps.none _ _)))));intro v415 w34 ho35 hb hg_ hnew_;clear hg_ hnew_;(first|rw [← Ny414.out] at ho35|(simp only [Int.reduceToNat] at ho35;rw [← Ny414.out] at ho35));have n0_:=Aside0.mk (Kd.S_below (by (with_reducible repeat (first|apply Kd.S_alloc|apply Kd.S_drewN|apply Kd.S_drew));exact HO_4.out) hb);have n1_:=Aside0.mk (Kd.R_lower ho35 (below_size (by repeat (first|(with_reducible first|exact HB.out|apply below_alloc|apply pw_below_drewN|apply below_drew1|refine below_set ?_ (IsS70.ge HI407.out))|exact HB.out))));have n2_:=Aside0.mk (IsS70.below (by repeat (first|(with_reducible first|exact HI407.out|apply IsS70.alloc|apply IsS70.drewN|apply IsS70.drew|apply IsS70.set_1)|exact HI407.out)) hb);have n3_:=Aside0.mk (below_step (by repeat (first|(with_reducible first|exact HB.out|apply below_alloc|apply pw_below_drewN|apply below_drew1|refine below_set ?_ (IsS70.ge HI407.out))|exact HB.out)) hb);clear HO_4;clear HI407;clear HB;have HO_4:=n0_;have HO416:=n1_;have HI407:=n2_;have HB:=n3_;clear n0_ n1_ n2_ n3_;clear hb ho35)|((with_reducible refine gate_callee (f:=36) rfl ?_);refine goesL_ (some 20) rfl rfl Try.func36 (by kernel_rfl) rfl #[.pointer (some ⟨g407,0,none⟩), .int .i64 3] rfl (by (try simp only [List.map_toArray,List.map_cons,List.map_nil]);first|done|rfl|(simp only [List.length_drop,List.length_take];rfl)) ?_;(with_reducible refine (spec_l6Rd_pick.calls kj3 g407 t405 x408001_3 3 t417 t418 w _ ?side1 ?side2 A13.out).mono ?_);(case side1=>repeat (first|(with_reducible first|exact HI407.out|apply IsS70.alloc|apply IsS70.drewN|apply IsS70.drew|apply IsS70.set_1)|exact HI407.out));(case side2=>repeat (first|(with_reducible first|exact HB.out|apply below_alloc|apply pw_below_drewN|apply below_drew1|refine below_set ?_ (IsS70.ge HI407.out))|exact HB.out));rintro e w36 ⟨rfl,hi,hb,hk⟩;refine ⟨_,rfl,?_⟩;have n0_:=Aside0.mk (Kd.S_mono (Kd.S_keep (IsS70.apartS (show IsS70 w _ g407 t405 x408001_3 from by repeat (first|(with_reducible first|exact HI407.out|apply IsS70.alloc|apply IsS70.drewN|apply IsS70.drew|apply IsS70.set_1)|exact HI407.out)) (by (with_reducible repeat (first|apply Kd.S_alloc|apply Kd.S_drewN|apply Kd.S_drew));exact HO_4.out) (by decide)) hk (fun _ h=>h.2)) (fun _ h=>h.1));have n1_:=Aside0.mk (Kd.R_mono (Kd.R_keep (IsS70.apart (show IsS70 w _ g407 t405 x408001_3 from by repeat (first|(with_reducible first|exact HI407.out|apply IsS70.alloc|apply IsS70.drewN|apply IsS70.drew|apply IsS70.set_1)|exact HI407.out)) (by (with_reducible repeat (first|apply Kd.R_alloc|apply Kd.R_drewN|apply Kd.R_drew));exact HO416.out) (by decide)) hk (fun _ h=>h.2)) (fun _ h=>h.1));have n2_:=Aside0.mk (hb);have n3_:=Aside0.mk (hi);clear HO_4;clear HO416;clear HB;clear HI407;have HO_4:=n0_;have HO416:=n1_;have HB:=n2_;have HI407:=n3_;clear n0_ n1_ n2_ n3_;(try clear hb);(try clear hb2);(try clear hk);(try clear hi);obtain ⟨Ao37,co37,eo37⟩:=Kd.R_slice HO416.out;subst eo37;have p419:0 ≤ (t417:Int):=of_decide_eq_true (by first|(with_reducible assumption)|assumption);have q419:t417 < (y414.length:Int):=of_decide_eq_true (by first|(with_reducible assumption)|assumption);obtain ⟨ad419,e419,hx419_0⟩:=Kd.at_int (Kd.R_reads' HO416.out).2.2 t417 p419 q419;cases e419;replace p419:=eq_true p419;replace q419:=eq_true q419;have p17:0 ≤ (0:Int):=(by omega);have q17:(0:Int) < ((t408.length:Int):Int):=of_decide_eq_true (by first|(with_reducible assumption)|assumption);have qi17:(0 < t408.length) = True:=eq_true (by omega);obtain ⟨go17,co17,eo17,gb17,gl17,cl17,HG17⟩:=Kd.S_form HO_4.out (by omega);(first|cases eo17|(injection eo17 with ea_ en_ ec_;(first|subst ea_|(injection ea_ with ea_;subst ea_));subst ec_;clear en_));have GB17:=Aside0.mk gb17;have GG17:=Aside0.mk HG17;clear gb17 gl17 HG17;obtain ⟨_,ce17,hcl17,hM17,hcc17,hfr17,_,_⟩:=Kd.S_elem HO_4.out z30 (0:Int) p17 q17;obtain ⟨ve17_0,ve17_1,rfl,ge17_0,ge17_1⟩:=k30_openM hM17;have hx17_0:w36.cell? ⟨go17,(0:Int).toNat * 3,none⟩ = some (ve17_0):=hcc17 0 _ rfl;have hx17_1:w36.cell? ⟨go17,(0:Int).toNat * 3 + 1,none⟩ = some (ve17_1):=hcc17 1 _ rfl;have hx17_2:w36.cell? ⟨go17,(0:Int).toNat * 3 + 2,none⟩ = some (.int .i64 ((rd_T30 t408 0).f2)):=hcc17 2 _ rfl;have hf17_0:w36.frozen? ⟨go17,(0:Int).toNat * 3,none⟩ = false:=hfr17 0;have hf17_1:w36.frozen? ⟨go17,(0:Int).toNat * 3 + 1,none⟩ = false:=hfr17 1;have hf17_2:w36.frozen? ⟨go17,(0:Int).toNat * 3 + 2,none⟩ = false:=hfr17 2;clear hcl17 hcc17 hfr17 hM17;(try rw [show ((0:Int)).toNat = 0 from rfl] at hx17_0);(try simp only [Nat.reduceMul,Nat.zero_mul,Nat.zero_add,Nat.reduceAdd] at hx17_0);(try rw [show ((0:Int)).toNat = 0 from rfl] at hf17_0);(try simp only [Nat.reduceMul,Nat.zero_mul,Nat.zero_add,Nat.reduceAdd] at hf17_0);(try rw [show ((0:Int)).toNat = 0 from rfl] at hx17_1);(try simp only [Nat.reduceMul,Nat.zero_mul,Nat.zero_add,Nat.reduceAdd] at hx17_1);(try rw [show ((0:Int)).toNat = 0 from rfl] at hf17_1);(try simp only [Nat.reduceMul,Nat.zero_mul,Nat.zero_add,Nat.reduceAdd] at hf17_1);(try rw [show ((0:Int)).toNat = 0 from rfl] at hx17_2);(try simp only [Nat.reduceMul,Nat.zero_mul,Nat.zero_add,Nat.reduceAdd] at hx17_2);(try rw [show ((0:Int)).toNat = 0 from rfl] at hf17_2);(try simp only [Nat.reduceMul,Nat.zero_mul,Nat.zero_add,Nat.reduceAdd] at hf17_2);replace p17:=eq_true p17;replace q17:=eq_true q17;have HX38:=Aside0.mk (show Kd.S k30 30 w36 w.heap.size (fun k_=>((fun _=>True)) k_ ∧ ¬ ((fun _=>False)) k_) (.slice (some ⟨go17,0,none⟩) t408.length co17) t408 from (by (with_reducible repeat (first|apply Kd.S_alloc|apply Kd.S_drewN|apply Kd.S_drew));exact Kd.S_mono HO_4.out (fun k_ hk=>⟨trivial,fun e_=>e_⟩)));obtain ⟨oki38,ce38,hcl38,hM38,hcc38,hfr38,hoki38,hH38⟩:=Kd.S_elem HX38.out z30 (0:Int) (by omega) (by have h_:(0:Int) < ((t408.length:Int):Int):=of_decide_eq_true (by first|(with_reducible assumption)|assumption);first|exact h_|(have e_:=(Kd.S_reads' HO_4.out).1;omega)|simpa using h_);obtain ⟨ve38_0,ve38_1,rfl,ge38_0,ge38_1⟩:=k30_openM hM38;have HP38:=Kd.S_seg hH38 (by omega) (by have h_:(0:Int) < ((t408.length:Int):Int):=of_decide_eq_true (by first|(with_reducible assumption)|assumption);first|exact h_|(have e_:=(Kd.S_reads' HO_4.out).1;omega)|simpa using h_) (seg:=[.int .i64 (rd y414 t417)]) (j:=2) (show 3 ≤ 3 from by decide) (x':=(⟨(rd_T30 t408 0).f0,(rd_T30 t408 0).f1,rd y414 t417⟩:S30)) (k30_mkM _ _ _ (⟨(rd_T30 t408 0).f0,(rd_T30 t408 0).f1,rd y414 t417⟩:S30) (Kd.R_mono ge38_0 (fun _ h_=>Or.inl h_)) (Kd.R_mono ge38_1 (fun _ h_=>Or.inl h_))) (fun _ hk=>hk) (fun k_ hk_=>hk_.elim);have hx38_2:=hcc38 2 _ rfl;(try simp only [show (k30).sz = 3 from rfl,Nat.mul_one,Nat.add_zero] at hx38_2);(try rw [show ((0:Int)).toNat = 0 from rfl] at hx38_2);(try simp only [Nat.reduceMul,Nat.zero_mul,Nat.zero_add,Nat.reduceAdd] at hx38_2);have hf38_2:=hfr38 2;(try simp only [show (k30).sz = 3 from rfl,Nat.mul_one,Nat.add_zero] at hf38_2);(try rw [show ((0:Int)).toNat = 0 from rfl] at hf38_2);(try simp only [Nat.reduceMul,Nat.zero_mul,Nat.zero_add,Nat.reduceAdd] at hf38_2);clear hcl38 hcc38 hfr38 hM38 hoki38 hH38)|((with_reducible refine gate_store (t:=3) (p:=24) rfl ?_);refine store_event (t:=3) (p:=24) (v:=?vo_w39) (w1:=(w36.setCell ⟨go17,2,none⟩ (.int .i64 (rd y414 t417)))) ?hg ?ho ?hn ?hr ?_;(case ho=>rfl);(case hg=>rfl);(case hn=>rfl);(case hr=>first|(go_simp;done)|(go_simp;rfl));intro w39 hw;have hg:w36.grownBy w39 (some go17):=(by rw [hw];exact HP38.2);have hp_:Kd.S k30 30 w39 w.heap.size (fun _=>True) (.slice (some ⟨go17,0,none⟩) t408.length co17) y420:=(by rw [hw,Ny420.out];exact HP38.1);clear HP38;have n0_:=Aside0.mk (hp_);have n1_:=Aside0.mk (IsS70.grown (by repeat (first|(with_reducible first|exact HI407.out|apply IsS70.alloc|apply IsS70.drewN|apply IsS70.drew|apply IsS70.set_1)|exact HI407.out)) hg (IsS70.own_neS HI407.out HO_4.out (by decide)));have n2_:=Aside0.mk (Kd.R_over' (v:=(.slice (some ⟨go17,0,none⟩) t408.length co17)) (by (with_reducible repeat (first|apply Kd.R_alloc|apply Kd.R_drewN|apply Kd.R_drew));exact HO416.out) (Kd.S_typed HO_4.out) (by decide) hg);have n3_:=Aside0.mk ((by rw [hw];exact below_set (HB.out) GB17.out:Below w.heap.size w w39));clear HO_4;clear HI407;clear HO416;clear HB;have HO_4:=n0_;have HI407:=n1_;have HO416:=n2_;have HB:=n3_;clear n0_ n1_ n2_ n3_;clear hg hw hp_)|((with_reducible refine gate_callee (f:=36) rfl ?_);refine goesL_ (some 26) rfl rfl Try.func36 (by kernel_rfl) rfl #[.pointer (some ⟨g407,0,none⟩), .int .i64 2] rfl (by (try simp only [List.map_toArray,List.map_cons,List.map_nil]);first|done|rfl|(simp only [List.length_drop,List.length_take];rfl)) ?_;(with_reducible refine (spec_l6Rd_pick.calls kj3 g407 t405 t418 2 t421 t422 w _ ?side1 ?side2 A18.out).mono ?_);(case side1=>repeat (first|(with_reducible first|exact HI407.out|apply IsS70.alloc|apply IsS70.drewN|apply IsS70.drew|apply IsS70.set_1)|exact HI407.out));(case side2=>repeat (first|(with_reducible first|exact HB.out|apply below_alloc|apply pw_below_drewN|apply below_drew1|refine below_set ?_ (IsS70.ge HI407.out))|exact HB.out));rintro e w40 ⟨rfl,hi,hb,hk⟩;refine ⟨_,rfl,?_⟩;have n0_:=Aside0.mk (Kd.S_mono (Kd.S_keep (IsS70.apartS (show IsS70 w _ g407 t405 t418 from by repeat (first|(with_reducible first|exact HI407.out|apply IsS70.alloc|apply IsS70.drewN|apply IsS70.drew|apply IsS70.set_1)|exact HI407.out)) (by (with_reducible repeat (first|apply Kd.S_alloc|apply Kd.S_drewN|apply Kd.S_drew));exact HO_4.out) (by decide)) hk (fun _ h=>h.2)) (fun _ h=>h.1));have n1_:=Aside0.mk (Kd.R_mono (Kd.R_keep (IsS70.apart (show IsS70 w _ g407 t405 t418 from by repeat (first|(with_reducible first|exact HI407.out|apply IsS70.alloc|apply IsS70.drewN|apply IsS70.drew|apply IsS70.set_1)|exact HI407.out)) (by (with_reducible repeat (first|apply Kd.R_alloc|apply Kd.R_drewN|apply Kd.R_drew));exact HO416.out) (by decide)) hk (fun _ h=>h.2)) (fun _ h=>h.1));have n2_:=Aside0.mk (hb);have n3_:=Aside0.mk (hi);clear HO_4;clear HO416;clear HB;clear HI407;have HO_4:=n0_;have HO416:=n1_;have HB:=n2_;have HI407:=n3_;clear n0_ n1_ n2_ n3_;(try clear hb);(try clear hb2);(try clear hk);(try clear hi)))
        go_ret
        exact ⟨_,by first|rfl|(simp <;> rfl)|(simp [*] <;> rfl),by (with_reducible repeat (first|apply Kd.S_alloc|apply Kd.S_drewN|apply Kd.S_drew));exact HO_4.out,by repeat (first|(with_reducible first|exact HB.out|apply below_alloc|apply pw_below_drewN|apply below_drew1|refine below_set ?_ (IsS70.ge HI407.out))|exact HB.out)⟩
      ·rw [if_neg c16] at H
       exact absurd H (by simp)
     ·rw [if_neg c15] at H
      exact absurd H (by simp)
    ·rw [if_neg c14] at H
     exact absurd H (by simp)
   ·replace c12:=Bool.eq_false_iff.mpr c12
    subst c12
    have H1:(some t408) = some r:=by rw [if_neg (show ¬ (false = true) by decide)] at H;exact H
    clear H
    have H:=H1
    clear H1
    obtain rfl:=Option.some.inj H
    go_wp2
    go_ret
    exact ⟨_,by first|rfl|(simp <;> rfl)|(simp [*] <;> rfl),by (with_reducible repeat (first|apply Kd.S_alloc|apply Kd.S_drewN|apply Kd.S_drew));exact HO_4.out,by repeat (first|(with_reducible first|exact HB.out|apply below_alloc|apply pw_below_drewN|apply below_drew1|refine below_set ?_ (IsS70.ge HI407.out))|exact HB.out)⟩

/-! ### laws_FnNoticeOk: function 8 -/
mutual
def laws_FnNoticeOk.j0:Nat → List (S30) → Bool → Bool → Option (Bool)
 | 0,_,_,_=>none
 | k + 1,x3,x4,x20=>if x20 = true then ((spec_NoticeOk.f k x3).bind fun t433=>(some (x4 == t433))) else (laws_FnNoticeOk.l0 k x3 0)
def laws_FnNoticeOk.l0:Nat → List (S30) → Int → Option (Bool)
 | 0,_,_=>none
 | k + 1,x3,x5=>if x5 < (x3.length:Int) then (if 0 ≤ x5 then (if x5 ≤ (wrap64 (x5 + 1)) then (if (wrap64 (x5 + 1)) ≤ (x3.length:Int) then ((impl_NoticeOk.f k ((x3.take ((wrap64 (x5 + 1)):Int).toNat).drop (x5:Int).toNat)).bind fun t438=>(if t438 = true then (laws_FnNoticeOk.l0 k x3 (wrap64 (x5 + 1))) else (some false))) else (none)) else (none)) else (none)) else ((impl_NoticeOk.f k ([]:List (S30))).bind fun t439=>(some t439))
end
def laws_FnNoticeOk.f (k:Nat) (l0:List Int):Option (Bool):=if (l0.length:Int) > 1048576 then (some true) else ((spec_DrawNoticeOk.f k l0).bind fun t428=>((impl_NoticeOk.f k t428).bind fun t431=>((spec_NoticeOk.f k t428).bind fun t432=>(if (t431 != t432) = true then (laws_FnNoticeOk.j0 k t428 t431 true) else (laws_FnNoticeOk.j0 k t428 t431 (!t431))))))
theorem laws_FnNoticeOk.mono_l:∀ k,(∀ y0 y1 y2,LeO (laws_FnNoticeOk.j0 k y0 y1 y2) (laws_FnNoticeOk.j0 (k + 1) y0 y1 y2)) ∧ (∀ y0 y1,LeO (laws_FnNoticeOk.l0 k y0 y1) (laws_FnNoticeOk.l0 (k + 1) y0 y1))
 | 0=>⟨fun _ _ _ r h=>by simp [laws_FnNoticeOk.j0] at h,fun _ _ r h=>by simp [laws_FnNoticeOk.l0] at h⟩
 | k + 1=>by
  obtain ⟨ih0,ih1⟩:=laws_FnNoticeOk.mono_l k
  refine ⟨?_,?_⟩
  ·intro y0 y1 y2
   unfold laws_FnNoticeOk.j0
   repeat' first
   | (with_reducible exact ih0 _ _ _)
   | (with_reducible exact ih1 _ _)
   | (with_reducible exact impl_NoticeOk.mono _ _)
   | (with_reducible exact spec_DrawNoticeOk.mono _ _)
   | (with_reducible exact spec_NoticeOk.mono _ _)
   | (with_reducible exact LeO.refl _)
   | (with_reducible exact LeO.none _)
   | (with_reducible refine LeO.ite ?_ ?_)
   | (with_reducible refine LeO.bind ?_ (fun _=>?_))
   | exact ih0 _ _ _
   | exact ih1 _ _
   | exact impl_NoticeOk.mono _ _
   | exact spec_DrawNoticeOk.mono _ _
   | exact spec_NoticeOk.mono _ _
   | exact LeO.none _
   | refine LeO.ite ?_ ?_
   | refine LeO.bind ?_ (fun _=>?_)
  ·intro y0 y1
   unfold laws_FnNoticeOk.l0
   repeat' first
   | (with_reducible exact ih0 _ _ _)
   | (with_reducible exact ih1 _ _)
   | (with_reducible exact impl_NoticeOk.mono _ _)
   | (with_reducible exact spec_DrawNoticeOk.mono _ _)
   | (with_reducible exact spec_NoticeOk.mono _ _)
   | (with_reducible exact LeO.refl _)
   | (with_reducible exact LeO.none _)
   | (with_reducible refine LeO.ite ?_ ?_)
   | (with_reducible refine LeO.bind ?_ (fun _=>?_))
   | exact ih0 _ _ _
   | exact ih1 _ _
   | exact impl_NoticeOk.mono _ _
   | exact spec_DrawNoticeOk.mono _ _
   | exact spec_NoticeOk.mono _ _
   | exact LeO.none _
   | refine LeO.ite ?_ ?_
   | refine LeO.bind ?_ (fun _=>?_)
theorem laws_FnNoticeOk.mono:∀ a0 k,LeO (laws_FnNoticeOk.f k a0) (laws_FnNoticeOk.f (k + 1) a0):=by
 intro a0 k
 obtain ⟨ih0,ih1⟩:=laws_FnNoticeOk.mono_l k
 unfold laws_FnNoticeOk.f
 repeat' first
   | (with_reducible exact ih0 _ _ _)
   | (with_reducible exact ih1 _ _)
   | (with_reducible exact impl_NoticeOk.mono _ _)
   | (with_reducible exact spec_DrawNoticeOk.mono _ _)
   | (with_reducible exact spec_NoticeOk.mono _ _)
   | (with_reducible exact LeO.refl _)
   | (with_reducible exact LeO.none _)
   | (with_reducible refine LeO.ite ?_ ?_)
   | (with_reducible refine LeO.bind ?_ (fun _=>?_))
   | exact ih0 _ _ _
   | exact ih1 _ _
   | exact impl_NoticeOk.mono _ _
   | exact spec_DrawNoticeOk.mono _ _
   | exact spec_NoticeOk.mono _ _
   | exact LeO.none _
   | refine LeO.ite ?_ ?_
   | refine LeO.bind ?_ (fun _=>?_)
theorem laws_FnNoticeOk.calls (k:Nat) (A0:Option Addr) (c0:Nat) (l0:List Int) (r:Bool) (w:World) (hr0:Kd.C (Kd.int .u8) w A0 l0.length l0) (hc0:l0.length ≤ c0) (h:laws_FnNoticeOk.f k l0 = some r) :
  Calls Try.prog 8 #[.slice A0 l0.length c0] w fun e w'=>e = .returned (.bool r) ∧ Below w.heap.size w w':=by
 have HR0:=Aside0.mk hr0
 have HC0:=Aside0.mk hc0
 clear hr0 hc0
 have HB:=Aside0.mk (Below.refl w.heap.size w)
 have H:(if (l0.length:Int) > 1048576 then (some true) else ((spec_DrawNoticeOk.f k l0).bind fun t428=>((impl_NoticeOk.f k t428).bind fun t431=>((spec_NoticeOk.f k t428).bind fun t432=>(if (t431 != t432) = true then (laws_FnNoticeOk.j0 k t428 t431 true) else (laws_FnNoticeOk.j0 k t428 t431 (!t431))))))) = some r:=h
 clear h
 by_cases c2:(l0.length:Int) > 1048576
 ·rw [if_pos c2] at H
  have c2b0:decide (1048576 < (l0.length:Int)) = true:=decide_eq_true c2
  have c2b1:decide (1048576 < l0.length) = true:=decide_eq_true (by omega)
  clear c2
  obtain rfl:=Option.some.inj H
  go_enter Try.func8,Try.ntmps8
  go_wp2
  go_ret
  exact ⟨by first|rfl|(simp <;> rfl)|(simp [*] <;> rfl),by repeat (first|(with_reducible first|exact HB.out|apply below_alloc|apply pw_below_drewN|apply below_drew1)|exact HB.out)⟩
 ·rw [if_neg c2] at H
  have c2b0:decide (1048576 < (l0.length:Int)) = false:=decide_eq_false c2
  have c2b1:decide (1048576 < l0.length) = false:=decide_eq_false (by omega)
  clear c2
  replace H:=Option.bind_eq_some_iff.mp H
  obtain ⟨t428,A30,H⟩:=H
  replace H:((impl_NoticeOk.f k t428).bind fun t431=>((spec_NoticeOk.f k t428).bind fun t432=>(if (t431 != t432) = true then (laws_FnNoticeOk.j0 k t428 t431 true) else (laws_FnNoticeOk.j0 k t428 t431 (!t431))))) = some r:=H
  have A3:=Aside0.mk A30
  clear A30
  replace H:=Option.bind_eq_some_iff.mp H
  obtain ⟨t431,A40,H⟩:=H
  replace H:((spec_NoticeOk.f k t428).bind fun t432=>(if (t431 != t432) = true then (laws_FnNoticeOk.j0 k t428 t431 true) else (laws_FnNoticeOk.j0 k t428 t431 (!t431)))) = some r:=H
  have A4:=Aside0.mk A40
  clear A40
  have HC5:=Aside0.mk H
  clear H
  go_enter Try.func8,Try.ntmps8
  go_upto_region 5 with (first|((with_reducible refine gate_callee (f:=18) rfl ?_);refine goesL_ (some 10) rfl rfl Try.func18 (by kernel_rfl) rfl #[.slice A0 l0.length c0] rfl (by (try simp only [List.map_toArray,List.map_cons,List.map_nil]);first|done|rfl|(simp only [List.length_drop,List.length_take];rfl)) ?_;(with_reducible refine (spec_DrawNoticeOk.calls k _ _ l0 t428 _ ?side1 ?side2 A3.out).mono ?_);(case side1=>repeat (first|exact HR0.out|(with_reducible refine Kd.C_alloc ?_ _)|(with_reducible refine Kd.C_drewN ?_ _)|(with_reducible refine Kd.C_drew ?_)));(case side2=>exact HC0.out);rintro e w6 ⟨v429,rfl,ho0,hb⟩;refine ⟨_,rfl,?_⟩;have n0_:=Aside0.mk (Kd.S_lower ho0 (below_size (by repeat (first|(with_reducible first|exact HB.out|apply below_alloc|apply pw_below_drewN|apply below_drew1)|exact HB.out))));have n1_:=Aside0.mk (below_step (by repeat (first|(with_reducible first|exact HB.out|apply below_alloc|apply pw_below_drewN|apply below_drew1)|exact HB.out)) hb);clear HB;have HO430:=n0_;have HB:=n1_;clear n0_ n1_;(try clear hb);(try clear hb2);(try clear hk);(try clear hi);(try clear ho0);obtain ⟨Ao7,co7,eo7⟩:=Kd.S_slice HO430.out;subst eo7)|((with_reducible refine gate_callee (f:=19) rfl ?_);refine goesL_ (some 12) rfl rfl Try.func19 (by kernel_rfl) rfl #[.slice Ao7 t428.length co7] rfl (by (try simp only [List.map_toArray,List.map_cons,List.map_nil]);first|done|rfl|(simp only [List.length_drop,List.length_take];rfl)) ?_;(with_reducible refine (impl_NoticeOk.calls k _ _ t428 t431 _ ?side1 ?side2 A4.out).mono ?_);(case side1=>repeat (first|exact (Kd.S_reads' HO430.out).2.2|(with_reducible refine Kd.C_alloc ?_ _)|(with_reducible refine Kd.C_drewN ?_ _)|(with_reducible refine Kd.C_drew ?_)));(case side2=>exact (Kd.S_reads' HO430.out).2.1);rintro e w8 ⟨rfl,hb⟩;refine ⟨_,rfl,?_⟩;have n0_:=Aside0.mk (Kd.S_below (by (with_reducible repeat (first|apply Kd.S_alloc|apply Kd.S_drewN|apply Kd.S_drew));exact HO430.out) hb);have n1_:=Aside0.mk (below_step (by repeat (first|(with_reducible first|exact HB.out|apply below_alloc|apply pw_below_drewN|apply below_drew1)|exact HB.out)) hb);clear HO430;clear HB;have HO430:=n0_;have HB:=n1_;clear n0_ n1_;(try clear hb);(try clear hb2);(try clear hk);(try clear hi)))
  (try simp only [Act.put,List.setIfInBounds_toArray,List.set_cons_zero,List.set_cons_succ])
  go_cut [20] (fun v20 wc=>∃ (kq:Nat) (x20_4:Bool),v20 = .bool x20_4 ∧ Aside0 (laws_FnNoticeOk.j0 kq t428 t431 x20_4 = some r) ∧ Aside0 (kq ≤ k) ∧ Aside0 (Kd.S k30 30 wc w.heap.size (fun _=>True) (.slice Ao7 t428.length co7) t428) ∧ Aside0 (Below w.heap.size w wc))
  case first =>
   have H:=HC5.out
   clear HC5
   replace H:=Option.bind_eq_some_iff.mp H
   obtain ⟨t432,A90,H⟩:=H
   replace H:(if (t431 != t432) = true then (laws_FnNoticeOk.j0 k t428 t431 true) else (laws_FnNoticeOk.j0 k t428 t431 (!t431))) = some r:=H
   have A9:=Aside0.mk A90
   clear A90
   by_cases c10:(t431 != t432) = true
   ·rw [if_pos c10] at H
    have c10b0:(t431 != t432) = true:=c10
    (try (have c10b1:decide (t431 = t432) = false:=by simpa using c10))
    (try (have c10b2:(t431 == t432) = false:=by simpa using c10))
    (try (have c10b3:¬ (t431 = t432):=by simpa using c10))
    clear c10
    (first|rw [c10b0]|(simp only [i64_w,i32_w];rw [c10b0])|skip)
    have H':=Aside0.mk H
    clear H
    go_wp2_with (first|((with_reducible refine gate_callee (f:=20) rfl ?_);refine goesL_ (some 15) rfl rfl Try.func20 (by kernel_rfl) rfl #[.slice Ao7 t428.length co7] rfl (by (try simp only [List.map_toArray,List.map_cons,List.map_nil]);first|done|rfl|(simp only [List.length_drop,List.length_take];rfl)) ?_;(with_reducible refine (spec_NoticeOk.calls k _ _ t428 t432 _ ?side1 ?side2 A9.out).mono ?_);(case side1=>repeat (first|exact (Kd.S_reads' HO430.out).2.2|(with_reducible refine Kd.C_alloc ?_ _)|(with_reducible refine Kd.C_drewN ?_ _)|(with_reducible refine Kd.C_drew ?_)));(case side2=>exact (Kd.S_reads' HO430.out).2.1);rintro e w11 ⟨rfl,hb⟩;refine ⟨_,rfl,?_⟩;have n0_:=Aside0.mk (Kd.S_below (by (with_reducible repeat (first|apply Kd.S_alloc|apply Kd.S_drewN|apply Kd.S_drew));exact HO430.out) hb);have n1_:=Aside0.mk (below_step (by repeat (first|(with_reducible first|exact HB.out|apply below_alloc|apply pw_below_drewN|apply below_drew1)|exact HB.out)) hb);clear HO430;clear HB;have HO430:=n0_;have HB:=n1_;clear n0_ n1_;(try clear hb);(try clear hb2);(try clear hk);(try clear hi)))
    go_meet
    case rel=>exact ⟨_,(true),(by first|rfl|(simp;done)|(simp only [i64_w,i32_w];done)|(simp only [i64_w,i32_w];rfl)|(simp [*];done)|(simp [emp_bne,emp_beq];done)),H',⟨by first|omega|exact Nat.le_refl _⟩,⟨by (with_reducible repeat (first|apply Kd.S_alloc|apply Kd.S_drewN|apply Kd.S_drew));exact HO430.out⟩,⟨by repeat (first|(with_reducible first|exact HB.out|apply below_alloc|apply pw_below_drewN|apply below_drew1)|exact HB.out)⟩⟩
   ·rw [if_neg c10] at H
    have c10b0:(t431 != t432) = false:=by simpa using c10
    (try (have c10b1:decide (t431 = t432) = true:=by simpa using c10))
    (try (have c10b2:(t431 == t432) = true:=by simpa using c10))
    clear c10
    (first|rw [c10b0]|(simp only [i64_w,i32_w];rw [c10b0])|skip)
    have H':=Aside0.mk H
    clear H
    go_wp2_with (first|((with_reducible refine gate_callee (f:=20) rfl ?_);refine goesL_ (some 15) rfl rfl Try.func20 (by kernel_rfl) rfl #[.slice Ao7 t428.length co7] rfl (by (try simp only [List.map_toArray,List.map_cons,List.map_nil]);first|done|rfl|(simp only [List.length_drop,List.length_take];rfl)) ?_;(with_reducible refine (spec_NoticeOk.calls k _ _ t428 t432 _ ?side1 ?side2 A9.out).mono ?_);(case side1=>repeat (first|exact (Kd.S_reads' HO430.out).2.2|(with_reducible refine Kd.C_alloc ?_ _)|(with_reducible refine Kd.C_drewN ?_ _)|(with_reducible refine Kd.C_drew ?_)));(case side2=>exact (Kd.S_reads' HO430.out).2.1);rintro e w12 ⟨rfl,hb⟩;refine ⟨_,rfl,?_⟩;have n0_:=Aside0.mk (Kd.S_below (by (with_reducible repeat (first|apply Kd.S_alloc|apply Kd.S_drewN|apply Kd.S_drew));exact HO430.out) hb);have n1_:=Aside0.mk (below_step (by repeat (first|(with_reducible first|exact HB.out|apply below_alloc|apply pw_below_drewN|apply below_drew1)|exact HB.out)) hb);clear HO430;clear HB;have HO430:=n0_;have HB:=n1_;clear n0_ n1_;(try clear hb);(try clear hb2);(try clear hk);(try clear hi)))
    go_meet
    case rel=>exact ⟨_,(!t431),(by first|rfl|(simp;done)|(simp only [i64_w,i32_w];done)|(simp only [i64_w,i32_w];rfl)|(simp [*];done)|(simp [emp_bne,emp_beq];done)),H',⟨by first|omega|exact Nat.le_refl _⟩,⟨by (with_reducible repeat (first|apply Kd.S_alloc|apply Kd.S_drewN|apply Kd.S_drew));exact HO430.out⟩,⟨by repeat (first|(with_reducible first|exact HB.out|apply below_alloc|apply pw_below_drewN|apply below_drew1)|exact HB.out)⟩⟩
  case rest =>
   clear HC5
   try clear c1
   try clear c2
   try clear c2b0
   try clear c2b1
   try clear p2
   try clear c8
   try clear c10
   try clear c10b0
   try clear c10b1
   try clear c10b2
   obtain ⟨kq,x20_4,rfl,HA,HJ4,HO_3,HB⟩:=hcut
   cases kq with
   | zero=>exact absurd HA.out (by simp [laws_FnNoticeOk.j0])
   | succ kj4 =>
    have H:=HA.out
    clear HA
    simp only [laws_FnNoticeOk.j0] at H
    by_cases c13:x20_4 = true
    ·subst c13
     have H1:((spec_NoticeOk.f kj4 t428).bind fun t433=>(some (t431 == t433))) = some r:=by rw [if_pos rfl] at H;exact H
     clear H
     have H:=H1
     clear H1
     replace H:=Option.bind_eq_some_iff.mp H
     obtain ⟨t433,A140,H⟩:=H
     replace H:(some (t431 == t433)) = some r:=H
     have A14:=Aside0.mk A140
     clear A140
     obtain rfl:=Option.some.inj H
     go_wp2_with (first|((with_reducible refine gate_callee (f:=20) rfl ?_);refine goesL_ (some 23) rfl rfl Try.func20 (by kernel_rfl) rfl #[.slice Ao7 t428.length co7] rfl (by (try simp only [List.map_toArray,List.map_cons,List.map_nil]);first|done|rfl|(simp only [List.length_drop,List.length_take];rfl)) ?_;(with_reducible refine (spec_NoticeOk.calls kj4 _ _ t428 t433 _ ?side1 ?side2 A14.out).mono ?_);(case side1=>repeat (first|exact (Kd.S_reads' HO_3.out).2.2|(with_reducible refine Kd.C_alloc ?_ _)|(with_reducible refine Kd.C_drewN ?_ _)|(with_reducible refine Kd.C_drew ?_)));(case side2=>exact (Kd.S_reads' HO_3.out).2.1);rintro e w15 ⟨rfl,hb⟩;refine ⟨_,rfl,?_⟩;have n0_:=Aside0.mk (Kd.S_below (by (with_reducible repeat (first|apply Kd.S_alloc|apply Kd.S_drewN|apply Kd.S_drew));exact HO_3.out) hb);have n1_:=Aside0.mk (below_step (by repeat (first|(with_reducible first|exact HB.out|apply below_alloc|apply pw_below_drewN|apply below_drew1)|exact HB.out)) hb);clear HO_3;clear HB;have HO_3:=n0_;have HB:=n1_;clear n0_ n1_;(try clear hb);(try clear hb2);(try clear hk);(try clear hi)))
     go_ret
     exact ⟨by first|rfl|(simp <;> rfl)|(simp [*] <;> rfl),by repeat (first|(with_reducible first|exact HB.out|apply below_alloc|apply pw_below_drewN|apply below_drew1)|exact HB.out)⟩
    ·replace c13:=Bool.eq_false_iff.mpr c13
     subst c13
     have H1:(laws_FnNoticeOk.l0 kj4 t428 0) = some r:=by rw [if_neg (show ¬ (false = true) by decide)] at H;exact H
     clear H
     have H:=H1
     clear H1
     have H':=Aside0.mk H
     clear H
     go_wp2
     go_loopg [5] kj4 (fun kq v5 w'=>∃ (x5_2:Int),v5 = .int .i64 x5_2 ∧ Aside0 (laws_FnNoticeOk.l0 kq t428 x5_2 = some r) ∧ Aside0 (kq ≤ kj4) ∧ Aside0 (Kd.S k30 30 w' w.heap.size (fun _=>True) (.slice Ao7 t428.length co7) t428) ∧ Aside0 (Below w.heap.size w w'))
     case atStart=>exact ⟨(0),(by first|rfl|(simp;done)|(simp only [i64_w,i32_w];done)|(simp only [i64_w,i32_w];rfl)|(simp [*];done)|(simp [emp_bne,emp_beq];done)),H',⟨Nat.le_refl _⟩,⟨by (with_reducible repeat (first|apply Kd.S_alloc|apply Kd.S_drewN|apply Kd.S_drew));exact HO_3.out⟩,⟨by repeat (first|(with_reducible first|exact HB.out|apply below_alloc|apply pw_below_drewN|apply below_drew1)|exact HB.out)⟩⟩
     case round =>
      clear H'
      try clear c1
      try clear c2
      try clear c2b0
      try clear c2b1
      try clear p2
      try clear c8
      try clear c10
      try clear c10b0
      try clear c10b1
      try clear c10b2
      try clear c13
      try clear p2
      obtain ⟨x5_2,rfl,HA,HK2,HO_3,HB⟩:=hrel
      cases gk with
      | zero=>exact absurd HA.out (by simp [laws_FnNoticeOk.l0])
      | succ k2 =>
       have H:=HA.out
       clear HA
       simp only [laws_FnNoticeOk.l0] at H
       by_cases c16:x5_2 < (t428.length:Int)
       ·rw [if_pos c16] at H
        have c16b0:decide (x5_2 < (t428.length:Int)) = true:=decide_eq_true c16
        clear c16
        by_cases c17:0 ≤ x5_2
        ·rw [if_pos c17] at H
         have c17b0:=eq_true c17
         have c17b1:=decide_eq_true c17
         clear c17
         by_cases c18:x5_2 ≤ (wrap64 (x5_2 + 1))
         ·rw [if_pos c18] at H
          have c18b0:=eq_true c18
          have c18b1:=decide_eq_true c18
          by_cases c19:(wrap64 (x5_2 + 1)) ≤ (t428.length:Int)
          ·rw [if_pos c19] at H
           have c19b0:=eq_true c19
           have c19b1:=decide_eq_true c19
           obtain ⟨y434,hy434⟩:∃ y_:List (S30),y_ = ((t428.take ((wrap64 (x5_2 + 1)):Int).toNat).drop (x5_2:Int).toNat):=⟨_,rfl⟩
           replace H:((impl_NoticeOk.f k2 y434).bind fun t438=>(if t438 = true then (laws_FnNoticeOk.l0 k2 t428 (wrap64 (x5_2 + 1))) else (some false))) = some r:=by first|(rw [hy434];with_reducible exact H)|(have H2_:=(Option.bind_some _ _).symm.trans H;rw [hy434];with_reducible exact H2_)|(have H2_:=(Option.bind_some _ _).symm.trans H;with_reducible exact H2_)|with_reducible exact H|(rw [hy434];exact H)|exact H
           have Ny434:=Aside0.mk hy434
           clear hy434
           replace H:=Option.bind_eq_some_iff.mp H
           obtain ⟨t438,A200,H⟩:=H
           replace H:(if t438 = true then (laws_FnNoticeOk.l0 k2 t428 (wrap64 (x5_2 + 1))) else (some false)) = some r:=H
           have A20:=Aside0.mk A200
           clear A200
           by_cases c21:t438 = true
           ·subst c21
            have H1:(laws_FnNoticeOk.l0 k2 t428 (wrap64 (x5_2 + 1))) = some r:=by rw [if_pos rfl] at H;exact H
            clear H
            have H:=H1
            clear H1
            have H':=Aside0.mk H
            clear H
            have q22:((wrap64 (x5_2 + 1)):Int) ≤ ((t428.length:Int):Int):=of_decide_eq_true (by first|(with_reducible assumption)|assumption)
            obtain ⟨i022,hi022,_,hsz22,_⟩:=info_parts info30
            have hroom22:t428.length ≤ co7:=(Kd.S_reads' HO_3.out).2.1
            have hC22:Kd.C k30 _ Ao7 t428.length t428:=(Kd.S_reads' HO_3.out).2.2
            have ql22:(x5_2:Int) ≤ ((wrap64 (x5_2 + 1)):Int):=of_decide_eq_true (by first|(with_reducible assumption)|assumption)
            have q022:(0:Int) ≤ (x5_2:Int):=of_decide_eq_true (by first|(with_reducible assumption)|assumption)
            have hcut22:=cut_mid (P:=Try.prog) 24 30 .i64 .i64 Try.underlying24 hi022 3 hsz22 Ao7 t428.length co7 x5_2 (wrap64 (x5_2 + 1)) q022 ql22 q22 hroom22
            have hr22:=Kd.C_mid (lo:=(x5_2:Int).toNat) (hi:=((wrap64 (x5_2 + 1)):Int).toNat) (c:=co7) hC22 (by omega) (by omega) hroom22
            obtain ⟨A22,hA22⟩:∃ A1,A1 = (if co7 = (x5_2:Int).toNat then Ao7 else (Ao7:Option Addr).map (·.add ((x5_2:Int).toNat * 3))):=⟨_,rfl⟩
            obtain ⟨c22,hc22⟩:∃ c1,c1 = co7 - (x5_2:Int).toNat:=⟨_,rfl⟩
            have hy22:y434.length = ((wrap64 (x5_2 + 1)):Int).toNat - (x5_2:Int).toNat:=(by rw [Ny434.out,List.length_drop,List.length_take] <;> omega)
            rw [show ((t428).take ((wrap64 (x5_2 + 1)):Int).toNat).drop (x5_2:Int).toNat = y434 from Ny434.out.symm] at hr22
            replace hr22:Kd.C k30 _ A22 y434.length y434:=(by rw [hA22];exact hr22)
            rw [← hy22,← hA22,← hc22] at hcut22
            have HR437:=Aside0.mk hr22
            have HC437:=Aside0.mk (show y434.length ≤ c22 from by rw [hy22,hc22];exact Nat.sub_le_sub_right (Nat.le_trans (by omega) hroom22) _)
            clear hr22 hC22 hroom22 hi022 hsz22 hc22
            have KY22:=Aside0.mk hy22
            have KA22:=Aside0.mk hA22
            clear hy22 hA22
            have KL22:=Aside0.mk (show ((wrap64 (x5_2 + 1)):Int).toNat ≤ t428.length from by omega)
            have KM22:=Aside0.mk (show (x5_2:Int).toNat ≤ ((wrap64 (x5_2 + 1)):Int).toNat from by omega)
            replace q22:=eq_true q22
            go_wp2_with (first|((with_reducible refine gate_callee (f:=19) rfl ?_);refine goesL_ (some 36) rfl rfl Try.func19 (by kernel_rfl) rfl #[.slice A22 y434.length c22] rfl (by (try simp only [List.map_toArray,List.map_cons,List.map_nil]);first|done|rfl|(simp only [List.length_drop,List.length_take];rfl)) ?_;(with_reducible refine (impl_NoticeOk.calls k2 _ _ y434 true _ ?side1 ?side2 A20.out).mono ?_);(case side1=>repeat (first|exact (by repeat (first|(with_reducible exact HR437.out)|(with_reducible refine Kd.C_alloc ?_ _)|(with_reducible refine Kd.C_drewN ?_ _)|(with_reducible refine Kd.C_drew ?_)|exact HR437.out))|(with_reducible refine Kd.C_alloc ?_ _)|(with_reducible refine Kd.C_drewN ?_ _)|(with_reducible refine Kd.C_drew ?_)));(case side2=>exact HC437.out);rintro e w23 ⟨rfl,hb⟩;refine ⟨_,rfl,?_⟩;have n0_:=Aside0.mk (Kd.S_below (by (with_reducible repeat (first|apply Kd.S_alloc|apply Kd.S_drewN|apply Kd.S_drew));exact HO_3.out) hb);have n1_:=Aside0.mk (Kd.C_below (by repeat (first|(with_reducible exact HR437.out)|(with_reducible refine Kd.C_alloc ?_ _)|(with_reducible refine Kd.C_drewN ?_ _)|(with_reducible refine Kd.C_drew ?_)|exact HR437.out)) hb);have n2_:=Aside0.mk (below_step (by repeat (first|(with_reducible first|exact HB.out|apply below_alloc|apply pw_below_drewN|apply below_drew1)|exact HB.out)) hb);clear HO_3;clear HR437;clear HB;have HO_3:=n0_;have HR437:=n1_;have HB:=n2_;clear n0_ n1_ n2_;(try clear hb);(try clear hb2);(try clear hk);(try clear hi)))
            go_roundg k2
            case measure=>have:=HJ4.out;have:=HK2.out;omega
            case rel=>exact ⟨(wrap64 (x5_2 + 1)),(by first|rfl|(simp;done)|(simp only [i64_w,i32_w];done)|(simp only [i64_w,i32_w];rfl)|(simp [*];done)|(simp [emp_bne,emp_beq];done)),H',⟨by have:=HJ4.out;have:=HK2.out;omega⟩,⟨by (with_reducible repeat (first|apply Kd.S_alloc|apply Kd.S_drewN|apply Kd.S_drew));exact HO_3.out⟩,⟨by repeat (first|(with_reducible first|exact HB.out|apply below_alloc|apply pw_below_drewN|apply below_drew1)|exact HB.out)⟩⟩
           ·replace c21:=Bool.eq_false_iff.mpr c21
            subst c21
            have H1:(some false) = some r:=by rw [if_neg (show ¬ (false = true) by decide)] at H;exact H
            clear H
            have H:=H1
            clear H1
            obtain rfl:=Option.some.inj H
            have q24:((wrap64 (x5_2 + 1)):Int) ≤ ((t428.length:Int):Int):=of_decide_eq_true (by first|(with_reducible assumption)|assumption)
            obtain ⟨i024,hi024,_,hsz24,_⟩:=info_parts info30
            have hroom24:t428.length ≤ co7:=(Kd.S_reads' HO_3.out).2.1
            have hC24:Kd.C k30 _ Ao7 t428.length t428:=(Kd.S_reads' HO_3.out).2.2
            have ql24:(x5_2:Int) ≤ ((wrap64 (x5_2 + 1)):Int):=of_decide_eq_true (by first|(with_reducible assumption)|assumption)
            have q024:(0:Int) ≤ (x5_2:Int):=of_decide_eq_true (by first|(with_reducible assumption)|assumption)
            have hcut24:=cut_mid (P:=Try.prog) 24 30 .i64 .i64 Try.underlying24 hi024 3 hsz24 Ao7 t428.length co7 x5_2 (wrap64 (x5_2 + 1)) q024 ql24 q24 hroom24
            have hr24:=Kd.C_mid (lo:=(x5_2:Int).toNat) (hi:=((wrap64 (x5_2 + 1)):Int).toNat) (c:=co7) hC24 (by omega) (by omega) hroom24
            obtain ⟨A24,hA24⟩:∃ A1,A1 = (if co7 = (x5_2:Int).toNat then Ao7 else (Ao7:Option Addr).map (·.add ((x5_2:Int).toNat * 3))):=⟨_,rfl⟩
            obtain ⟨c24,hc24⟩:∃ c1,c1 = co7 - (x5_2:Int).toNat:=⟨_,rfl⟩
            have hy24:y434.length = ((wrap64 (x5_2 + 1)):Int).toNat - (x5_2:Int).toNat:=(by rw [Ny434.out,List.length_drop,List.length_take] <;> omega)
            rw [show ((t428).take ((wrap64 (x5_2 + 1)):Int).toNat).drop (x5_2:Int).toNat = y434 from Ny434.out.symm] at hr24
            replace hr24:Kd.C k30 _ A24 y434.length y434:=(by rw [hA24];exact hr24)
            rw [← hy24,← hA24,← hc24] at hcut24
            have HR437:=Aside0.mk hr24
            have HC437:=Aside0.mk (show y434.length ≤ c24 from by rw [hy24,hc24];exact Nat.sub_le_sub_right (Nat.le_trans (by omega) hroom24) _)
            clear hr24 hC24 hroom24 hi024 hsz24 hc24
            have KY24:=Aside0.mk hy24
            have KA24:=Aside0.mk hA24
            clear hy24 hA24
            have KL24:=Aside0.mk (show ((wrap64 (x5_2 + 1)):Int).toNat ≤ t428.length from by omega)
            have KM24:=Aside0.mk (show (x5_2:Int).toNat ≤ ((wrap64 (x5_2 + 1)):Int).toNat from by omega)
            replace q24:=eq_true q24
            go_wp2_with (first|((with_reducible refine gate_callee (f:=19) rfl ?_);refine goesL_ (some 36) rfl rfl Try.func19 (by kernel_rfl) rfl #[.slice A24 y434.length c24] rfl (by (try simp only [List.map_toArray,List.map_cons,List.map_nil]);first|done|rfl|(simp only [List.length_drop,List.length_take];rfl)) ?_;(with_reducible refine (impl_NoticeOk.calls k2 _ _ y434 false _ ?side1 ?side2 A20.out).mono ?_);(case side1=>repeat (first|exact (by repeat (first|(with_reducible exact HR437.out)|(with_reducible refine Kd.C_alloc ?_ _)|(with_reducible refine Kd.C_drewN ?_ _)|(with_reducible refine Kd.C_drew ?_)|exact HR437.out))|(with_reducible refine Kd.C_alloc ?_ _)|(with_reducible refine Kd.C_drewN ?_ _)|(with_reducible refine Kd.C_drew ?_)));(case side2=>exact HC437.out);rintro e w25 ⟨rfl,hb⟩;refine ⟨_,rfl,?_⟩;have n0_:=Aside0.mk (Kd.S_below (by (with_reducible repeat (first|apply Kd.S_alloc|apply Kd.S_drewN|apply Kd.S_drew));exact HO_3.out) hb);have n1_:=Aside0.mk (Kd.C_below (by repeat (first|(with_reducible exact HR437.out)|(with_reducible refine Kd.C_alloc ?_ _)|(with_reducible refine Kd.C_drewN ?_ _)|(with_reducible refine Kd.C_drew ?_)|exact HR437.out)) hb);have n2_:=Aside0.mk (below_step (by repeat (first|(with_reducible first|exact HB.out|apply below_alloc|apply pw_below_drewN|apply below_drew1)|exact HB.out)) hb);clear HO_3;clear HR437;clear HB;have HO_3:=n0_;have HR437:=n1_;have HB:=n2_;clear n0_ n1_ n2_;(try clear hb);(try clear hb2);(try clear hk);(try clear hi)))
            go_ret
            exact ⟨by first|rfl|(simp <;> rfl)|(simp [*] <;> rfl),by repeat (first|(with_reducible first|exact HB.out|apply below_alloc|apply pw_below_drewN|apply below_drew1)|exact HB.out)⟩
          ·rw [if_neg c19] at H
           exact absurd H (by simp)
         ·rw [if_neg c18] at H
          exact absurd H (by simp)
        ·rw [if_neg c17] at H
         exact absurd H (by simp)
       ·rw [if_neg c16] at H
        have c16b0:decide (x5_2 < (t428.length:Int)) = false:=decide_eq_false c16
        clear c16
        replace H:=Option.bind_eq_some_iff.mp H
        obtain ⟨t439,A260,H⟩:=H
        replace H:(some t439) = some r:=H
        have A26:=Aside0.mk A260
        clear A260
        obtain rfl:=Option.some.inj H
        go_wp2_with (first|((with_reducible refine gate_callee (f:=19) rfl ?_);refine goesL_ (some 38) rfl rfl Try.func19 (by kernel_rfl) rfl #[.slice none 0 0] rfl (by (try simp only [List.map_toArray,List.map_cons,List.map_nil]);first|done|rfl|(simp only [List.length_drop,List.length_take];rfl)) ?_;(refine (impl_NoticeOk.calls k2 _ _ ([]:List (S30)) t439 _ ?side1 ?side2 A26.out).mono ?_);(case side1=>exact Kd.C_nil _ _);(case side2=>exact Nat.le_refl _);rintro e w27 ⟨rfl,hb⟩;refine ⟨_,rfl,?_⟩;have n0_:=Aside0.mk (Kd.S_below (by (with_reducible repeat (first|apply Kd.S_alloc|apply Kd.S_drewN|apply Kd.S_drew));exact HO_3.out) hb);have n1_:=Aside0.mk (below_step (by repeat (first|(with_reducible first|exact HB.out|apply below_alloc|apply pw_below_drewN|apply below_drew1)|exact HB.out)) hb);clear HO_3;clear HB;have HO_3:=n0_;have HB:=n1_;clear n0_ n1_;(try clear hb);(try clear hb2);(try clear hk);(try clear hi)))
        go_ret
        exact ⟨by first|rfl|(simp <;> rfl)|(simp [*] <;> rfl),by repeat (first|(with_reducible first|exact HB.out|apply below_alloc|apply pw_below_drewN|apply below_drew1)|exact HB.out)⟩

/-- THE ONE PURE STATEMENT of laws_FnNoticeOk: yours. -/
def laws_FnNoticeOk.Pure:Prop:=∀ (l0:List Int),l0.length ≤ maxLen → l0.length * 1 ≤ 140737488351232 → (∀ x ∈ l0,(Lit.int .u8 x).wf = true) → ∃ k,laws_FnNoticeOk.f k l0 = some true
theorem laws_FnNoticeOk.walk (P:laws_FnNoticeOk.Pure) (a0:Option Addr) (len0 cap0:Nat) (z0:List Int) (w:World) (w0:(a0 = none ∧ len0 = 0 ∧ cap0 = 0 ∧ z0 = []) ∨ ∃ x,a0 = some x ∧ len0 ≤ cap0 ∧ cap0 ≤ maxLen ∧ z0.length = cap0 ∧ (∀ i,i < z0.length → w.cell? (x.add i) = some (.int .u8 (z0.getD i 0))) ∧ ∀ n ∈ z0,(Lit.int .u8 n).wf = true) (y0:len0 * 1 ≤ 140737488351232) :
  Calls Try.prog 8 #[.slice a0 len0 cap0] w fun e w'=>e = .returned (.bool true) ∧ Below w.heap.size w w':=by
 obtain ⟨l0,rfl,hr0,hm0,hw0,hc0⟩:=ReadsInt.ofRowC w0
 obtain ⟨k,h⟩:=P l0 hm0 y0 hw0
 refine (laws_FnNoticeOk.calls k _ _ l0 true w (Kd.C_of_reads (d:=(0:Int)) (h1:=fun _=>rfl) hr0) hc0 h).mono ?_
 rintro e w' ⟨rfl,hd⟩
 exact ⟨rfl,hd⟩

end Go.Proofs.Ytheakfegchndcaa.P
