-- Written by a program of this session (patch_print.py over the kit's print; given texts in wip/given).
import Derived.Test.YtochmlkladpfgaaDoorPx0
import Derived.Test.YtochmlkladpfgaaDoorPx2
import Derived.Test.YtochmlkladpfgaaDoorPx3
import Derived.Test.YtochmlkladpfgaaDoorPx4
namespace Go.Proofs.YtochmlkladpfgaaDoor.P
open Go.RowKit Go.Proofs.YtochmlkladpfgaaDoorW.PrintWords Go.Proofs.YtochmlkladpfgaaDoorW.PrintLast Go.Proofs.YtochmlkladpfgaaDoorW.PrintMore
attribute [local go_sem] max2_int min2_int max_two min_two max_three min_three max_four min_four   -- for this text's walks alone
set_option linter.unusedVariables false
set_option linter.unusedSimpArgs false
set_option maxHeartbeats 8000000
set_option maxRecDepth 100000

/-! ### impl_AddrOk: function 18 -/
mutual
def impl_AddrOk.j0:Nat → Bool → ByteArray → List ByteArray → Bool → ByteArray → Option (Bool)
 | 0,_,_,_,_,_=>none
 | k + 1,x14,x142000,x142001,x142002,x142003=>if x14 = true then (some false) else (impl_AddrOk.l0 k x142001 (x142001.length:Int) 0 x142000 x142001 x142002 x142003)
def impl_AddrOk.l0:Nat → List ByteArray → Int → Int → ByteArray → List ByteArray → Bool → ByteArray → Option (Bool)
 | 0,_,_,_,_,_,_,_=>none
 | k + 1,x16,x17,x18,x142000,x142001,x142002,x142003=>if x18 < x17 then (if 0 ≤ x18 then (if x18 < (x16.length:Int) then (if (rdOf ByteArray.empty x16 x18).toList = ([]:List UInt8) then (some false) else (if (rdOf ByteArray.empty x16 x18).toList = ([46]:List UInt8) then (some false) else (if (rdOf ByteArray.empty x16 x18).toList = ([46,46]:List UInt8) then (some false) else ((impl_isNormal.f k (rdOf ByteArray.empty x16 x18)).bind fun t144=>(if t144 = true then (impl_AddrOk.l0 k x16 x17 (wrap64 (x18 + 1)) x142000 x142001 x142002 x142003) else (some false)))))) else (none)) else (none)) else ((impl_isNormal.f k x142003).bind fun t145=>(if t145 = true then (if x142002 = true then ((impl_writeAddr.f x142000 x142001 x142002 x142003).bind fun t146=>(some (decide ((t146.size:Int) ≤ 60)))) else (if x142003.toList = ([]:List UInt8) then ((impl_writeAddr.f x142000 x142001 x142002 x142003).bind fun t147=>(some (decide ((t147.size:Int) ≤ 60)))) else (some false))) else (some false)))
end
def impl_AddrOk.f (k:Nat) (a0_0:ByteArray) (l0_1:List ByteArray) (a0_2:Bool) (a0_3:ByteArray):Option (Bool):=(impl_isHouse.f k a0_0).bind fun t142=>(if t142 = true then (impl_AddrOk.j0 k (decide ((l0_1.length:Int) > 5)) a0_0 l0_1 a0_2 a0_3) else (impl_AddrOk.j0 k true a0_0 l0_1 a0_2 a0_3))
theorem impl_AddrOk.mono_l:∀ k,(∀ y0 y1 y2 y3 y4,LeO (impl_AddrOk.j0 k y0 y1 y2 y3 y4) (impl_AddrOk.j0 (k + 1) y0 y1 y2 y3 y4)) ∧ (∀ y0 y1 y2 y3 y4 y5 y6,LeO (impl_AddrOk.l0 k y0 y1 y2 y3 y4 y5 y6) (impl_AddrOk.l0 (k + 1) y0 y1 y2 y3 y4 y5 y6))
 | 0=>⟨fun _ _ _ _ _ r h=>by simp [impl_AddrOk.j0] at h,fun _ _ _ _ _ _ _ r h=>by simp [impl_AddrOk.l0] at h⟩
 | k + 1=>by
  obtain ⟨ih0,ih1⟩:=impl_AddrOk.mono_l k
  refine ⟨?_,?_⟩
  ·intro y0 y1 y2 y3 y4
   unfold impl_AddrOk.j0
   repeat' first
   | (with_reducible exact ih0 _ _ _ _ _)
   | (with_reducible exact ih1 _ _ _ _ _ _ _)
   | (with_reducible exact impl_isHouse.mono _ _)
   | (with_reducible exact impl_isNormal.mono _ _)
   | (with_reducible exact LeO.refl _)
   | (with_reducible exact LeO.none _)
   | (with_reducible refine LeO.ite ?_ ?_)
   | (with_reducible refine LeO.bind ?_ (fun _=>?_))
   | exact ih0 _ _ _ _ _
   | exact ih1 _ _ _ _ _ _ _
   | exact impl_isHouse.mono _ _
   | exact impl_isNormal.mono _ _
   | exact LeO.none _
   | refine LeO.ite ?_ ?_
   | refine LeO.bind ?_ (fun _=>?_)
  ·intro y0 y1 y2 y3 y4 y5 y6
   unfold impl_AddrOk.l0
   repeat' first
   | (with_reducible exact ih0 _ _ _ _ _)
   | (with_reducible exact ih1 _ _ _ _ _ _ _)
   | (with_reducible exact impl_isHouse.mono _ _)
   | (with_reducible exact impl_isNormal.mono _ _)
   | (with_reducible exact LeO.refl _)
   | (with_reducible exact LeO.none _)
   | (with_reducible refine LeO.ite ?_ ?_)
   | (with_reducible refine LeO.bind ?_ (fun _=>?_))
   | exact ih0 _ _ _ _ _
   | exact ih1 _ _ _ _ _ _ _
   | exact impl_isHouse.mono _ _
   | exact impl_isNormal.mono _ _
   | exact LeO.none _
   | refine LeO.ite ?_ ?_
   | refine LeO.bind ?_ (fun _=>?_)
theorem impl_AddrOk.mono:∀ a0 a1 a2 a3 k,LeO (impl_AddrOk.f k a0 a1 a2 a3) (impl_AddrOk.f (k + 1) a0 a1 a2 a3):=by
 intro a0 a1 a2 a3 k
 obtain ⟨ih0,ih1⟩:=impl_AddrOk.mono_l k
 unfold impl_AddrOk.f
 repeat' first
   | (with_reducible exact ih0 _ _ _ _ _)
   | (with_reducible exact ih1 _ _ _ _ _ _ _)
   | (with_reducible exact impl_isHouse.mono _ _)
   | (with_reducible exact impl_isNormal.mono _ _)
   | (with_reducible exact LeO.refl _)
   | (with_reducible exact LeO.none _)
   | (with_reducible refine LeO.ite ?_ ?_)
   | (with_reducible refine LeO.bind ?_ (fun _=>?_))
   | exact ih0 _ _ _ _ _
   | exact ih1 _ _ _ _ _ _ _
   | exact impl_isHouse.mono _ _
   | exact impl_isNormal.mono _ _
   | exact LeO.none _
   | refine LeO.ite ?_ ?_
   | refine LeO.bind ?_ (fun _=>?_)
theorem impl_AddrOk.calls (k:Nat) (a0_0:ByteArray) (A0_1:Option Addr) (c0_1:Nat) (l0_1:List ByteArray) (a0_2:Bool) (a0_3:ByteArray) (r:Bool) (w:World) (hr0_1:Kd.C Kd.string w A0_1 l0_1.length l0_1) (hc0_1:l0_1.length ≤ c0_1) (h:impl_AddrOk.f k a0_0 l0_1 a0_2 a0_3 = some r) :
  Calls Tryd.prog 18 #[.agg #[.string a0_0,.slice A0_1 l0_1.length c0_1,.bool a0_2,.string a0_3]] w fun e w'=>e = .returned (.bool r) ∧ Below w.heap.size w w':=by
 have hu24:=Tryd.underlying24
 have HR0_1:=Aside0.mk hr0_1
 have HC0_1:=Aside0.mk hc0_1
 clear hr0_1 hc0_1
 have HB:=Aside0.mk (Below.refl w.heap.size w)
 have H:((impl_isHouse.f k a0_0).bind fun t142=>(if t142 = true then (impl_AddrOk.j0 k (decide ((l0_1.length:Int) > 5)) a0_0 l0_1 a0_2 a0_3) else (impl_AddrOk.j0 k true a0_0 l0_1 a0_2 a0_3))) = some r:=h
 clear h
 have HC2:=Aside0.mk H
 clear H
 go_enter Tryd.func18,Tryd.ntmps18
 go_upto_region 1 with (first|((with_reducible refine gate_dst (N:=1) rfl ?_);(try (refine gate_guard (by rfl) ?_;dsimp only));refine box_event ?hg (N:=1) ?hd (cs:=#[.string a0_0,.slice A0_1 l0_1.length c0_1,.bool a0_2,.string a0_3]) (t:=24) ?hr ?_;(case hd=>rfl);(case hg=>rfl);(case hr=>first|(go_simp;done)|(go_simp;rfl));intro gb141 hg w3 hbox hb;have n0_:=Aside0.mk (below_step (by repeat (first|(with_reducible first|exact HB.out|apply below_alloc|apply pw_below_drewN|apply below_drew1)|exact HB.out)) hb);have n1_:=Aside0.mk (hbox);have n2_:=Aside0.mk ((by rw [hg];exact (below_size (by repeat (first|(with_reducible first|exact HB.out|apply below_alloc|apply pw_below_drewN|apply below_drew1)|exact HB.out))):w.heap.size ≤ gb141));have n3_:=n2_;clear HB;have HB:=n0_;have BK141:=n1_;have GW141:=n2_;have GE141:=n3_;clear n0_ n1_ n2_ n3_;clear hb hbox hg))
 (try simp only [Act.put,List.setIfInBounds_toArray,List.set_cons_zero,List.set_cons_succ])
 go_cut [14] (fun v14 wc=>∃ (kq:Nat) (x14_1:Bool),v14 = .bool x14_1 ∧ Aside0 (impl_AddrOk.j0 kq x14_1 a0_0 l0_1 a0_2 a0_3 = some r) ∧ Aside0 (kq ≤ k) ∧ Aside0 (wc.heap[gb141]? = some (.cells #[.string a0_0,(.slice A0_1 l0_1.length c0_1),.bool a0_2,.string a0_3] 24 (0,0))) ∧ Aside0 (Below w.heap.size w wc))
 case first =>
  have H:=HC2.out
  clear HC2
  replace H:=Option.bind_eq_some_iff.mp H
  obtain ⟨t142,A40,H⟩:=H
  replace H:(if t142 = true then (impl_AddrOk.j0 k (decide ((l0_1.length:Int) > 5)) a0_0 l0_1 a0_2 a0_3) else (impl_AddrOk.j0 k true a0_0 l0_1 a0_2 a0_3)) = some r:=H
  have A4:=Aside0.mk A40
  clear A40
  by_cases c5:t142 = true
  ·subst c5
   have H1:(impl_AddrOk.j0 k (decide ((l0_1.length:Int) > 5)) a0_0 l0_1 a0_2 a0_3) = some r:=by rw [if_pos rfl] at H;exact H
   clear H
   have H:=H1
   clear H1
   have H':=Aside0.mk H
   clear H
   have hcz6_0:w3.cell? ⟨gb141,0,none⟩ = some (.string a0_0):=(blk_cell BK141.out 0).trans rfl
   have hcz6_1:w3.cell? ⟨gb141,1,none⟩ = some (.slice A0_1 l0_1.length c0_1):=(blk_cell BK141.out 1).trans rfl
   have hcz6_2:w3.cell? ⟨gb141,2,none⟩ = some (.bool a0_2):=(blk_cell BK141.out 2).trans rfl
   have hcz6_3:w3.cell? ⟨gb141,3,none⟩ = some (.string a0_3):=(blk_cell BK141.out 3).trans rfl
   have hfz6_0:=blk_frozen BK141.out 0
   have hfz6_1:=blk_frozen BK141.out 1
   have hfz6_2:=blk_frozen BK141.out 2
   have hfz6_3:=blk_frozen BK141.out 3
   go_wp2_with (first|((with_reducible refine gate_callee (f:=36) rfl ?_);refine goesL_ (some 7) rfl rfl Tryd.func36 (by kernel_rfl) rfl #[.string a0_0] rfl (by (try simp only [List.map_toArray,List.map_cons,List.map_nil]);first|done|rfl|(simp only [List.length_drop,List.length_take];rfl)) ?_;(with_reducible refine (impl_isHouse.calls k a0_0 true _ A4.out).mono ?_);rintro e w' ⟨rfl,⟨nd,rfl⟩⟩;refine ⟨_,rfl,?_⟩))
   go_meet
   case rel=>exact ⟨_,(decide ((l0_1.length:Int) > 5)),(by first|rfl|(simp;done)|(simp only [i64_w,i32_w];done)|(simp only [i64_w,i32_w];rfl)|(simp [*];done)|(simp [emp_bne,emp_beq];done)),H',⟨by first|omega|exact Nat.le_refl _⟩,⟨by (with_reducible repeat (first|refine blk_drewN ?_ _|refine blk_drew ?_|refine blk_alloc ?_ _));exact BK141.out⟩,⟨by repeat (first|(with_reducible first|exact HB.out|apply below_alloc|apply pw_below_drewN|apply below_drew1|refine below_set ?_ GE141.out)|exact HB.out)⟩⟩
  ·replace c5:=Bool.eq_false_iff.mpr c5
   subst c5
   have H1:(impl_AddrOk.j0 k true a0_0 l0_1 a0_2 a0_3) = some r:=by rw [if_neg (show ¬ (false = true) by decide)] at H;exact H
   clear H
   have H:=H1
   clear H1
   have H':=Aside0.mk H
   clear H
   have hcz7_0:w3.cell? ⟨gb141,0,none⟩ = some (.string a0_0):=(blk_cell BK141.out 0).trans rfl
   have hcz7_1:w3.cell? ⟨gb141,1,none⟩ = some (.slice A0_1 l0_1.length c0_1):=(blk_cell BK141.out 1).trans rfl
   have hcz7_2:w3.cell? ⟨gb141,2,none⟩ = some (.bool a0_2):=(blk_cell BK141.out 2).trans rfl
   have hcz7_3:w3.cell? ⟨gb141,3,none⟩ = some (.string a0_3):=(blk_cell BK141.out 3).trans rfl
   have hfz7_0:=blk_frozen BK141.out 0
   have hfz7_1:=blk_frozen BK141.out 1
   have hfz7_2:=blk_frozen BK141.out 2
   have hfz7_3:=blk_frozen BK141.out 3
   go_wp2_with (first|((with_reducible refine gate_callee (f:=36) rfl ?_);refine goesL_ (some 7) rfl rfl Tryd.func36 (by kernel_rfl) rfl #[.string a0_0] rfl (by (try simp only [List.map_toArray,List.map_cons,List.map_nil]);first|done|rfl|(simp only [List.length_drop,List.length_take];rfl)) ?_;(with_reducible refine (impl_isHouse.calls k a0_0 false _ A4.out).mono ?_);rintro e w' ⟨rfl,⟨nd,rfl⟩⟩;refine ⟨_,rfl,?_⟩))
   go_meet
   case rel=>exact ⟨_,(true),(by first|rfl|(simp;done)|(simp only [i64_w,i32_w];done)|(simp only [i64_w,i32_w];rfl)|(simp [*];done)|(simp [emp_bne,emp_beq];done)),H',⟨by first|omega|exact Nat.le_refl _⟩,⟨by (with_reducible repeat (first|refine blk_drewN ?_ _|refine blk_drew ?_|refine blk_alloc ?_ _));exact BK141.out⟩,⟨by repeat (first|(with_reducible first|exact HB.out|apply below_alloc|apply pw_below_drewN|apply below_drew1|refine below_set ?_ GE141.out)|exact HB.out)⟩⟩
 case rest =>
  clear HC2
  try clear c1
  try clear p2
  try clear c3
  try clear c5
  try clear hcz6_0
  try clear hcz6_1
  try clear hcz6_2
  try clear hcz6_3
  try clear hcz7_0
  try clear hcz7_1
  try clear hcz7_2
  try clear hcz7_3
  try clear hfz6_0
  try clear hfz6_1
  try clear hfz6_2
  try clear hfz6_3
  try clear hfz7_0
  try clear hfz7_1
  try clear hfz7_2
  try clear hfz7_3
  obtain ⟨kq,x14_1,rfl,HA,HJ1,BK141,HB⟩:=hcut
  cases kq with
  | zero=>exact absurd HA.out (by simp [impl_AddrOk.j0])
  | succ kj1 =>
   have H:=HA.out
   clear HA
   simp only [impl_AddrOk.j0] at H
   by_cases c8:x14_1 = true
   ·subst c8
    have H1:(some false) = some r:=by rw [if_pos rfl] at H;exact H
    clear H
    have H:=H1
    clear H1
    obtain rfl:=Option.some.inj H
    go_wp2
    go_ret
    exact ⟨by first|rfl|(simp <;> rfl)|(simp [*] <;> rfl),by repeat (first|(with_reducible first|exact HB.out|apply below_alloc|apply pw_below_drewN|apply below_drew1|refine below_set ?_ GE141.out)|exact HB.out)⟩
   ·replace c8:=Bool.eq_false_iff.mpr c8
    subst c8
    have H1:(impl_AddrOk.l0 kj1 l0_1 (l0_1.length:Int) 0 a0_0 l0_1 a0_2 a0_3) = some r:=by rw [if_neg (show ¬ (false = true) by decide)] at H;exact H
    clear H
    have H:=H1
    clear H1
    have H':=Aside0.mk H
    clear H
    have hcz9_0:wc.cell? ⟨gb141,0,none⟩ = some (.string a0_0):=(blk_cell BK141.out 0).trans rfl
    have hcz9_1:wc.cell? ⟨gb141,1,none⟩ = some (.slice A0_1 l0_1.length c0_1):=(blk_cell BK141.out 1).trans rfl
    have hcz9_2:wc.cell? ⟨gb141,2,none⟩ = some (.bool a0_2):=(blk_cell BK141.out 2).trans rfl
    have hcz9_3:wc.cell? ⟨gb141,3,none⟩ = some (.string a0_3):=(blk_cell BK141.out 3).trans rfl
    have hfz9_0:=blk_frozen BK141.out 0
    have hfz9_1:=blk_frozen BK141.out 1
    have hfz9_2:=blk_frozen BK141.out 2
    have hfz9_3:=blk_frozen BK141.out 3
    go_wp2
    go_loopg [18] kj1 (fun kq v18 w'=>∃ (x18_2:Int),v18 = .int .i64 x18_2 ∧ Aside0 (impl_AddrOk.l0 kq l0_1 (l0_1.length:Int) x18_2 a0_0 l0_1 a0_2 a0_3 = some r) ∧ Aside0 (kq ≤ kj1) ∧ Aside0 (w'.heap[gb141]? = some (.cells #[.string a0_0,(.slice A0_1 l0_1.length c0_1),.bool a0_2,.string a0_3] 24 (0,0))) ∧ Aside0 (Below w.heap.size w w'))
    case atStart=>exact ⟨(0),(by first|rfl|(simp;done)|(simp only [i64_w,i32_w];done)|(simp only [i64_w,i32_w];rfl)|(simp [*];done)|(simp [emp_bne,emp_beq];done)),H',⟨Nat.le_refl _⟩,⟨by (with_reducible repeat (first|refine blk_drewN ?_ _|refine blk_drew ?_|refine blk_alloc ?_ _));exact BK141.out⟩,⟨by repeat (first|(with_reducible first|exact HB.out|apply below_alloc|apply pw_below_drewN|apply below_drew1|refine below_set ?_ GE141.out)|exact HB.out)⟩⟩
    case round =>
     clear H'
     try clear c1
     try clear p2
     try clear c3
     try clear c5
     try clear c8
     try clear hcz6_0
     try clear hcz6_1
     try clear hcz6_2
     try clear hcz6_3
     try clear hcz7_0
     try clear hcz7_1
     try clear hcz7_2
     try clear hcz7_3
     try clear hcz9_0
     try clear hcz9_1
     try clear hcz9_2
     try clear hcz9_3
     try clear hfz6_0
     try clear hfz6_1
     try clear hfz6_2
     try clear hfz6_3
     try clear hfz7_0
     try clear hfz7_1
     try clear hfz7_2
     try clear hfz7_3
     try clear hfz9_0
     try clear hfz9_1
     try clear hfz9_2
     try clear hfz9_3
     try clear p2
     obtain ⟨x18_2,rfl,HA,HK2,BK141,HB⟩:=hrel
     cases gk with
     | zero=>exact absurd HA.out (by simp [impl_AddrOk.l0])
     | succ k2 =>
      have H:=HA.out
      clear HA
      simp only [impl_AddrOk.l0] at H
      by_cases c10:x18_2 < (l0_1.length:Int)
      ·rw [if_pos c10] at H
       have c10b0:decide (x18_2 < (l0_1.length:Int)) = true:=decide_eq_true c10
       clear c10
       by_cases c11:0 ≤ x18_2
       ·rw [if_pos c11] at H
        have c11b0:decide (0 ≤ x18_2) = true:=decide_eq_true c11
        clear c11
        by_cases c12:x18_2 < (l0_1.length:Int)
        ·rw [if_pos c12] at H
         have c12b0:decide (x18_2 < (l0_1.length:Int)) = true:=decide_eq_true c12
         clear c12
         by_cases c13:(rdOf ByteArray.empty l0_1 x18_2).toList = ([]:List UInt8)
         ·rw [if_pos c13] at H
          (try (have c13b0:(rdOf ByteArray.empty l0_1 x18_2).toList.isEmpty = true:=by simpa using c13))
          have c13b1:((rdOf ByteArray.empty l0_1 x18_2).toList == ([]:List UInt8)) = true:=beq_iff_eq.mpr c13
          have c13b2:((rdOf ByteArray.empty l0_1 x18_2).toList != ([]:List UInt8)) = false:=bne_eq_false_iff_eq.mpr c13
          clear c13
          obtain rfl:=Option.some.inj H
          have p143:0 ≤ (x18_2:Int):=of_decide_eq_true (by first|(with_reducible assumption)|assumption)
          have q143:x18_2 < (l0_1.length:Int):=of_decide_eq_true (by first|(with_reducible assumption)|assumption)
          obtain ⟨ad143,e143,hx143_0⟩:=Kd.at_string HR0_1.out x18_2 p143 q143
          cases e143
          replace hx143_0:=(HB.out.cell (World.block_lt_of_cell? w _ hx143_0)).trans hx143_0
          replace p143:=eq_true p143
          replace q143:=eq_true q143
          go_wp2
          go_ret
          exact ⟨by first|rfl|(simp <;> rfl)|(simp [*] <;> rfl),by repeat (first|(with_reducible first|exact HB.out|apply below_alloc|apply pw_below_drewN|apply below_drew1|refine below_set ?_ GE141.out)|exact HB.out)⟩
         ·rw [if_neg c13] at H
          (try (have c13b0:(rdOf ByteArray.empty l0_1 x18_2).toList.isEmpty = false:=by simpa using c13))
          have c13b1:((rdOf ByteArray.empty l0_1 x18_2).toList == ([]:List UInt8)) = false:=beq_eq_false_iff_ne.mpr c13
          have c13b2:((rdOf ByteArray.empty l0_1 x18_2).toList != ([]:List UInt8)) = true:=bne_iff_ne.mpr c13
          by_cases c14:(rdOf ByteArray.empty l0_1 x18_2).toList = ([46]:List UInt8)
          ·rw [if_pos c14] at H
           have c14b0:((rdOf ByteArray.empty l0_1 x18_2).toList == ([46]:List UInt8)) = true:=beq_iff_eq.mpr c14
           have c14b1:((rdOf ByteArray.empty l0_1 x18_2).toList != ([46]:List UInt8)) = false:=bne_eq_false_iff_eq.mpr c14
           clear c14
           obtain rfl:=Option.some.inj H
           have p143:0 ≤ (x18_2:Int):=of_decide_eq_true (by first|(with_reducible assumption)|assumption)
           have q143:x18_2 < (l0_1.length:Int):=of_decide_eq_true (by first|(with_reducible assumption)|assumption)
           obtain ⟨ad143,e143,hx143_0⟩:=Kd.at_string HR0_1.out x18_2 p143 q143
           cases e143
           replace hx143_0:=(HB.out.cell (World.block_lt_of_cell? w _ hx143_0)).trans hx143_0
           replace p143:=eq_true p143
           replace q143:=eq_true q143
           go_wp2
           go_ret
           exact ⟨by first|rfl|(simp <;> rfl)|(simp [*] <;> rfl),by repeat (first|(with_reducible first|exact HB.out|apply below_alloc|apply pw_below_drewN|apply below_drew1|refine below_set ?_ GE141.out)|exact HB.out)⟩
          ·rw [if_neg c14] at H
           have c14b0:((rdOf ByteArray.empty l0_1 x18_2).toList == ([46]:List UInt8)) = false:=beq_eq_false_iff_ne.mpr c14
           have c14b1:((rdOf ByteArray.empty l0_1 x18_2).toList != ([46]:List UInt8)) = true:=bne_iff_ne.mpr c14
           by_cases c15:(rdOf ByteArray.empty l0_1 x18_2).toList = ([46,46]:List UInt8)
           ·rw [if_pos c15] at H
            have c15b0:((rdOf ByteArray.empty l0_1 x18_2).toList == ([46,46]:List UInt8)) = true:=beq_iff_eq.mpr c15
            have c15b1:((rdOf ByteArray.empty l0_1 x18_2).toList != ([46,46]:List UInt8)) = false:=bne_eq_false_iff_eq.mpr c15
            clear c15
            obtain rfl:=Option.some.inj H
            have p143:0 ≤ (x18_2:Int):=of_decide_eq_true (by first|(with_reducible assumption)|assumption)
            have q143:x18_2 < (l0_1.length:Int):=of_decide_eq_true (by first|(with_reducible assumption)|assumption)
            obtain ⟨ad143,e143,hx143_0⟩:=Kd.at_string HR0_1.out x18_2 p143 q143
            cases e143
            replace hx143_0:=(HB.out.cell (World.block_lt_of_cell? w _ hx143_0)).trans hx143_0
            replace p143:=eq_true p143
            replace q143:=eq_true q143
            go_wp2
            go_ret
            exact ⟨by first|rfl|(simp <;> rfl)|(simp [*] <;> rfl),by repeat (first|(with_reducible first|exact HB.out|apply below_alloc|apply pw_below_drewN|apply below_drew1|refine below_set ?_ GE141.out)|exact HB.out)⟩
           ·rw [if_neg c15] at H
            have c15b0:((rdOf ByteArray.empty l0_1 x18_2).toList == ([46,46]:List UInt8)) = false:=beq_eq_false_iff_ne.mpr c15
            have c15b1:((rdOf ByteArray.empty l0_1 x18_2).toList != ([46,46]:List UInt8)) = true:=bne_iff_ne.mpr c15
            replace H:=Option.bind_eq_some_iff.mp H
            obtain ⟨t144,A160,H⟩:=H
            replace H:(if t144 = true then (impl_AddrOk.l0 k2 l0_1 (l0_1.length:Int) (wrap64 (x18_2 + 1)) a0_0 l0_1 a0_2 a0_3) else (some false)) = some r:=H
            have A16:=Aside0.mk A160
            clear A160
            by_cases c17:t144 = true
            ·subst c17
             have H1:(impl_AddrOk.l0 k2 l0_1 (l0_1.length:Int) (wrap64 (x18_2 + 1)) a0_0 l0_1 a0_2 a0_3) = some r:=by rw [if_pos rfl] at H;exact H
             clear H
             have H:=H1
             clear H1
             have H':=Aside0.mk H
             clear H
             have p143:0 ≤ (x18_2:Int):=of_decide_eq_true (by first|(with_reducible assumption)|assumption)
             have q143:x18_2 < (l0_1.length:Int):=of_decide_eq_true (by first|(with_reducible assumption)|assumption)
             obtain ⟨ad143,e143,hx143_0⟩:=Kd.at_string HR0_1.out x18_2 p143 q143
             cases e143
             replace hx143_0:=(HB.out.cell (World.block_lt_of_cell? w _ hx143_0)).trans hx143_0
             replace p143:=eq_true p143
             replace q143:=eq_true q143
             go_wp2_with (first|(go_at_call 37;(with_reducible refine (impl_isNormal.calls k2 (rdOf ByteArray.empty l0_1 x18_2) true _ A16.out).mono ?_);rintro e w18 ⟨rfl,hb⟩;have n0_:=Aside0.mk (blk_below (g:=gb141) (o:=.cells #[.string a0_0,.slice (some ad143) l0_1.length c0_1,.bool a0_2,.string a0_3] 24 (0,0)) (by (with_reducible repeat (first|refine blk_drewN ?_ _|refine blk_drew ?_|refine blk_alloc ?_ _));exact BK141.out) hb);have n1_:=Aside0.mk (below_step (by repeat (first|(with_reducible first|exact HB.out|apply below_alloc|apply pw_below_drewN|apply below_drew1|refine below_set ?_ GE141.out)|exact HB.out)) hb);clear BK141;clear HB;have BK141:=n0_;have HB:=n1_;clear n0_ n1_;(try clear hb);(try clear hb2);(try clear hk);(try clear hi)))
             go_roundg k2
             case measure=>have:=HJ1.out;have:=HK2.out;omega
             case rel=>exact ⟨(wrap64 (x18_2 + 1)),(by first|rfl|(simp;done)|(simp only [i64_w,i32_w];done)|(simp only [i64_w,i32_w];rfl)|(simp [*];done)|(simp [emp_bne,emp_beq];done)),H',⟨by have:=HJ1.out;have:=HK2.out;omega⟩,⟨by (with_reducible repeat (first|refine blk_drewN ?_ _|refine blk_drew ?_|refine blk_alloc ?_ _));exact BK141.out⟩,⟨by repeat (first|(with_reducible first|exact HB.out|apply below_alloc|apply pw_below_drewN|apply below_drew1|refine below_set ?_ GE141.out)|exact HB.out)⟩⟩
            ·replace c17:=Bool.eq_false_iff.mpr c17
             subst c17
             have H1:(some false) = some r:=by rw [if_neg (show ¬ (false = true) by decide)] at H;exact H
             clear H
             have H:=H1
             clear H1
             obtain rfl:=Option.some.inj H
             have p143:0 ≤ (x18_2:Int):=of_decide_eq_true (by first|(with_reducible assumption)|assumption)
             have q143:x18_2 < (l0_1.length:Int):=of_decide_eq_true (by first|(with_reducible assumption)|assumption)
             obtain ⟨ad143,e143,hx143_0⟩:=Kd.at_string HR0_1.out x18_2 p143 q143
             cases e143
             replace hx143_0:=(HB.out.cell (World.block_lt_of_cell? w _ hx143_0)).trans hx143_0
             replace p143:=eq_true p143
             replace q143:=eq_true q143
             go_wp2_with (first|(go_at_call 37;(with_reducible refine (impl_isNormal.calls k2 (rdOf ByteArray.empty l0_1 x18_2) false _ A16.out).mono ?_);rintro e w19 ⟨rfl,hb⟩;have n0_:=Aside0.mk (blk_below (g:=gb141) (o:=.cells #[.string a0_0,.slice (some ad143) l0_1.length c0_1,.bool a0_2,.string a0_3] 24 (0,0)) (by (with_reducible repeat (first|refine blk_drewN ?_ _|refine blk_drew ?_|refine blk_alloc ?_ _));exact BK141.out) hb);have n1_:=Aside0.mk (below_step (by repeat (first|(with_reducible first|exact HB.out|apply below_alloc|apply pw_below_drewN|apply below_drew1|refine below_set ?_ GE141.out)|exact HB.out)) hb);clear BK141;clear HB;have BK141:=n0_;have HB:=n1_;clear n0_ n1_;(try clear hb);(try clear hb2);(try clear hk);(try clear hi)))
             go_ret
             exact ⟨by first|rfl|(simp <;> rfl)|(simp [*] <;> rfl),by repeat (first|(with_reducible first|exact HB.out|apply below_alloc|apply pw_below_drewN|apply below_drew1|refine below_set ?_ GE141.out)|exact HB.out)⟩
        ·rw [if_neg c12] at H
         exact absurd H (by simp)
       ·rw [if_neg c11] at H
        exact absurd H (by simp)
      ·rw [if_neg c10] at H
       have c10b0:decide (x18_2 < (l0_1.length:Int)) = false:=decide_eq_false c10
       clear c10
       replace H:=Option.bind_eq_some_iff.mp H
       obtain ⟨t145,A200,H⟩:=H
       replace H:(if t145 = true then (if a0_2 = true then ((impl_writeAddr.f a0_0 l0_1 a0_2 a0_3).bind fun t146=>(some (decide ((t146.size:Int) ≤ 60)))) else (if a0_3.toList = ([]:List UInt8) then ((impl_writeAddr.f a0_0 l0_1 a0_2 a0_3).bind fun t147=>(some (decide ((t147.size:Int) ≤ 60)))) else (some false))) else (some false)) = some r:=H
       have A20:=Aside0.mk A200
       clear A200
       by_cases c21:t145 = true
       ·subst c21
        have H1:(if a0_2 = true then ((impl_writeAddr.f a0_0 l0_1 a0_2 a0_3).bind fun t146=>(some (decide ((t146.size:Int) ≤ 60)))) else (if a0_3.toList = ([]:List UInt8) then ((impl_writeAddr.f a0_0 l0_1 a0_2 a0_3).bind fun t147=>(some (decide ((t147.size:Int) ≤ 60)))) else (some false))) = some r:=by rw [if_pos rfl] at H;exact H
        clear H
        have H:=H1
        clear H1
        by_cases c22:a0_2 = true
        ·subst c22
         have H1:((impl_writeAddr.f a0_0 l0_1 true a0_3).bind fun t146=>(some (decide ((t146.size:Int) ≤ 60)))) = some r:=by rw [if_pos rfl] at H;exact H
         clear H
         have H:=H1
         clear H1
         replace H:=Option.bind_eq_some_iff.mp H
         obtain ⟨t146,A230,H⟩:=H
         replace H:(some (decide ((t146.size:Int) ≤ 60))) = some r:=H
         have A23:=Aside0.mk A230
         clear A230
         obtain rfl:=Option.some.inj H
         have hcz24_0:wr.cell? ⟨gb141,0,none⟩ = some (.string a0_0):=(blk_cell BK141.out 0).trans rfl
         have hcz24_1:wr.cell? ⟨gb141,1,none⟩ = some (.slice A0_1 l0_1.length c0_1):=(blk_cell BK141.out 1).trans rfl
         have hcz24_2:wr.cell? ⟨gb141,2,none⟩ = some (.bool true):=(blk_cell BK141.out 2).trans rfl
         have hcz24_3:wr.cell? ⟨gb141,3,none⟩ = some (.string a0_3):=(blk_cell BK141.out 3).trans rfl
         have hfz24_0:=blk_frozen BK141.out 0
         have hfz24_1:=blk_frozen BK141.out 1
         have hfz24_2:=blk_frozen BK141.out 2
         have hfz24_3:=blk_frozen BK141.out 3
         go_wp2_with (first|((with_reducible refine gate_callee (f:=37) rfl ?_);refine goesL_ (some 40) rfl rfl Tryd.func37 (by kernel_rfl) rfl #[.string a0_3] rfl (by (try simp only [List.map_toArray,List.map_cons,List.map_nil]);first|done|rfl|(simp only [List.length_drop,List.length_take];rfl)) ?_;(with_reducible refine (impl_isNormal.calls k2 a0_3 true _ A20.out).mono ?_);rintro e w25 ⟨rfl,hb⟩;refine ⟨_,rfl,?_⟩;have n0_:=Aside0.mk (blk_below (g:=gb141) (o:=.cells #[.string a0_0,.slice A0_1 l0_1.length c0_1,.bool true,.string a0_3] 24 (0,0)) (by (with_reducible repeat (first|refine blk_drewN ?_ _|refine blk_drew ?_|refine blk_alloc ?_ _));exact BK141.out) hb);have n1_:=Aside0.mk (below_step (by repeat (first|(with_reducible first|exact HB.out|apply below_alloc|apply pw_below_drewN|apply below_drew1|refine below_set ?_ GE141.out)|exact HB.out)) hb);clear BK141;clear HB;have BK141:=n0_;have HB:=n1_;clear n0_ n1_;(try clear hb);(try clear hb2);(try clear hk);(try clear hi);have hcz26_0:w25.cell? ⟨gb141,0,none⟩ = some (.string a0_0):=(blk_cell BK141.out 0).trans rfl;have hcz26_1:w25.cell? ⟨gb141,1,none⟩ = some (.slice A0_1 l0_1.length c0_1):=(blk_cell BK141.out 1).trans rfl;have hcz26_2:w25.cell? ⟨gb141,2,none⟩ = some (.bool true):=(blk_cell BK141.out 2).trans rfl;have hcz26_3:w25.cell? ⟨gb141,3,none⟩ = some (.string a0_3):=(blk_cell BK141.out 3).trans rfl;have hfz26_0:=blk_frozen BK141.out 0;have hfz26_1:=blk_frozen BK141.out 1;have hfz26_2:=blk_frozen BK141.out 2;have hfz26_3:=blk_frozen BK141.out 3)|((with_reducible refine gate_callee (f:=28) rfl ?_);refine goesL_ (some 53) rfl rfl Tryd.func28 (by kernel_rfl) rfl #[.agg #[.string a0_0,.slice A0_1 l0_1.length c0_1,.bool true,.string a0_3]] rfl (by (try simp only [List.map_toArray,List.map_cons,List.map_nil]);first|done|rfl|(simp only [List.length_drop,List.length_take];rfl)) ?_;(with_reducible refine (impl_writeAddr.calls a0_0 _ _ l0_1 true a0_3 t146 _ ?side1 ?side2 A23.out).mono ?_);(case side1=>repeat (first|exact (Kd.C_below HR0_1.out HB.out)|(with_reducible refine Kd.C_alloc ?_ _)|(with_reducible refine Kd.C_drewN ?_ _)|(with_reducible refine Kd.C_drew ?_)));(case side2=>exact HC0_1.out);rintro e w27 ⟨rfl,hb⟩;refine ⟨_,rfl,?_⟩;have n0_:=Aside0.mk (blk_below (g:=gb141) (o:=.cells #[.string a0_0,.slice A0_1 l0_1.length c0_1,.bool true,.string a0_3] 24 (0,0)) (by (with_reducible repeat (first|refine blk_drewN ?_ _|refine blk_drew ?_|refine blk_alloc ?_ _));exact BK141.out) hb);have n1_:=Aside0.mk (below_step (by repeat (first|(with_reducible first|exact HB.out|apply below_alloc|apply pw_below_drewN|apply below_drew1|refine below_set ?_ GE141.out)|exact HB.out)) hb);clear BK141;clear HB;have BK141:=n0_;have HB:=n1_;clear n0_ n1_;(try clear hb);(try clear hb2);(try clear hk);(try clear hi)))
         go_ret
         exact ⟨by first|rfl|(simp <;> rfl)|(simp [*] <;> rfl),by repeat (first|(with_reducible first|exact HB.out|apply below_alloc|apply pw_below_drewN|apply below_drew1|refine below_set ?_ GE141.out)|exact HB.out)⟩
        ·replace c22:=Bool.eq_false_iff.mpr c22
         subst c22
         have H1:(if a0_3.toList = ([]:List UInt8) then ((impl_writeAddr.f a0_0 l0_1 false a0_3).bind fun t147=>(some (decide ((t147.size:Int) ≤ 60)))) else (some false)) = some r:=by rw [if_neg (show ¬ (false = true) by decide)] at H;exact H
         clear H
         have H:=H1
         clear H1
         by_cases c28:a0_3.toList = ([]:List UInt8)
         ·rw [if_pos c28] at H
          (try (have c28b0:a0_3.toList.isEmpty = true:=by simpa using c28))
          have c28b1:(a0_3.toList == ([]:List UInt8)) = true:=beq_iff_eq.mpr c28
          have c28b2:(a0_3.toList != ([]:List UInt8)) = false:=bne_eq_false_iff_eq.mpr c28
          clear c28
          replace H:=Option.bind_eq_some_iff.mp H
          obtain ⟨t147,A290,H⟩:=H
          replace H:(some (decide ((t147.size:Int) ≤ 60))) = some r:=H
          have A29:=Aside0.mk A290
          clear A290
          obtain rfl:=Option.some.inj H
          have hcz30_0:wr.cell? ⟨gb141,0,none⟩ = some (.string a0_0):=(blk_cell BK141.out 0).trans rfl
          have hcz30_1:wr.cell? ⟨gb141,1,none⟩ = some (.slice A0_1 l0_1.length c0_1):=(blk_cell BK141.out 1).trans rfl
          have hcz30_2:wr.cell? ⟨gb141,2,none⟩ = some (.bool false):=(blk_cell BK141.out 2).trans rfl
          have hcz30_3:wr.cell? ⟨gb141,3,none⟩ = some (.string a0_3):=(blk_cell BK141.out 3).trans rfl
          have hfz30_0:=blk_frozen BK141.out 0
          have hfz30_1:=blk_frozen BK141.out 1
          have hfz30_2:=blk_frozen BK141.out 2
          have hfz30_3:=blk_frozen BK141.out 3
          go_wp2_with (first|((with_reducible refine gate_callee (f:=37) rfl ?_);refine goesL_ (some 40) rfl rfl Tryd.func37 (by kernel_rfl) rfl #[.string a0_3] rfl (by (try simp only [List.map_toArray,List.map_cons,List.map_nil]);first|done|rfl|(simp only [List.length_drop,List.length_take];rfl)) ?_;(with_reducible refine (impl_isNormal.calls k2 a0_3 true _ A20.out).mono ?_);rintro e w31 ⟨rfl,hb⟩;refine ⟨_,rfl,?_⟩;have n0_:=Aside0.mk (blk_below (g:=gb141) (o:=.cells #[.string a0_0,.slice A0_1 l0_1.length c0_1,.bool false,.string a0_3] 24 (0,0)) (by (with_reducible repeat (first|refine blk_drewN ?_ _|refine blk_drew ?_|refine blk_alloc ?_ _));exact BK141.out) hb);have n1_:=Aside0.mk (below_step (by repeat (first|(with_reducible first|exact HB.out|apply below_alloc|apply pw_below_drewN|apply below_drew1|refine below_set ?_ GE141.out)|exact HB.out)) hb);clear BK141;clear HB;have BK141:=n0_;have HB:=n1_;clear n0_ n1_;(try clear hb);(try clear hb2);(try clear hk);(try clear hi);have hcz32_0:w31.cell? ⟨gb141,0,none⟩ = some (.string a0_0):=(blk_cell BK141.out 0).trans rfl;have hcz32_1:w31.cell? ⟨gb141,1,none⟩ = some (.slice A0_1 l0_1.length c0_1):=(blk_cell BK141.out 1).trans rfl;have hcz32_2:w31.cell? ⟨gb141,2,none⟩ = some (.bool false):=(blk_cell BK141.out 2).trans rfl;have hcz32_3:w31.cell? ⟨gb141,3,none⟩ = some (.string a0_3):=(blk_cell BK141.out 3).trans rfl;have hfz32_0:=blk_frozen BK141.out 0;have hfz32_1:=blk_frozen BK141.out 1;have hfz32_2:=blk_frozen BK141.out 2;have hfz32_3:=blk_frozen BK141.out 3)|((with_reducible refine gate_callee (f:=28) rfl ?_);refine goesL_ (some 53) rfl rfl Tryd.func28 (by kernel_rfl) rfl #[.agg #[.string a0_0,.slice A0_1 l0_1.length c0_1,.bool false,.string a0_3]] rfl (by (try simp only [List.map_toArray,List.map_cons,List.map_nil]);first|done|rfl|(simp only [List.length_drop,List.length_take];rfl)) ?_;(with_reducible refine (impl_writeAddr.calls a0_0 _ _ l0_1 false a0_3 t147 _ ?side1 ?side2 A29.out).mono ?_);(case side1=>repeat (first|exact (Kd.C_below HR0_1.out HB.out)|(with_reducible refine Kd.C_alloc ?_ _)|(with_reducible refine Kd.C_drewN ?_ _)|(with_reducible refine Kd.C_drew ?_)));(case side2=>exact HC0_1.out);rintro e w33 ⟨rfl,hb⟩;refine ⟨_,rfl,?_⟩;have n0_:=Aside0.mk (blk_below (g:=gb141) (o:=.cells #[.string a0_0,.slice A0_1 l0_1.length c0_1,.bool false,.string a0_3] 24 (0,0)) (by (with_reducible repeat (first|refine blk_drewN ?_ _|refine blk_drew ?_|refine blk_alloc ?_ _));exact BK141.out) hb);have n1_:=Aside0.mk (below_step (by repeat (first|(with_reducible first|exact HB.out|apply below_alloc|apply pw_below_drewN|apply below_drew1|refine below_set ?_ GE141.out)|exact HB.out)) hb);clear BK141;clear HB;have BK141:=n0_;have HB:=n1_;clear n0_ n1_;(try clear hb);(try clear hb2);(try clear hk);(try clear hi)))
          go_ret
          exact ⟨by first|rfl|(simp <;> rfl)|(simp [*] <;> rfl),by repeat (first|(with_reducible first|exact HB.out|apply below_alloc|apply pw_below_drewN|apply below_drew1|refine below_set ?_ GE141.out)|exact HB.out)⟩
         ·rw [if_neg c28] at H
          (try (have c28b0:a0_3.toList.isEmpty = false:=by simpa using c28))
          have c28b1:(a0_3.toList == ([]:List UInt8)) = false:=beq_eq_false_iff_ne.mpr c28
          have c28b2:(a0_3.toList != ([]:List UInt8)) = true:=bne_iff_ne.mpr c28
          obtain rfl:=Option.some.inj H
          have hcz34_0:wr.cell? ⟨gb141,0,none⟩ = some (.string a0_0):=(blk_cell BK141.out 0).trans rfl
          have hcz34_1:wr.cell? ⟨gb141,1,none⟩ = some (.slice A0_1 l0_1.length c0_1):=(blk_cell BK141.out 1).trans rfl
          have hcz34_2:wr.cell? ⟨gb141,2,none⟩ = some (.bool false):=(blk_cell BK141.out 2).trans rfl
          have hcz34_3:wr.cell? ⟨gb141,3,none⟩ = some (.string a0_3):=(blk_cell BK141.out 3).trans rfl
          have hfz34_0:=blk_frozen BK141.out 0
          have hfz34_1:=blk_frozen BK141.out 1
          have hfz34_2:=blk_frozen BK141.out 2
          have hfz34_3:=blk_frozen BK141.out 3
          go_wp2_with (first|((with_reducible refine gate_callee (f:=37) rfl ?_);refine goesL_ (some 40) rfl rfl Tryd.func37 (by kernel_rfl) rfl #[.string a0_3] rfl (by (try simp only [List.map_toArray,List.map_cons,List.map_nil]);first|done|rfl|(simp only [List.length_drop,List.length_take];rfl)) ?_;(with_reducible refine (impl_isNormal.calls k2 a0_3 true _ A20.out).mono ?_);rintro e w35 ⟨rfl,hb⟩;refine ⟨_,rfl,?_⟩;have n0_:=Aside0.mk (blk_below (g:=gb141) (o:=.cells #[.string a0_0,.slice A0_1 l0_1.length c0_1,.bool false,.string a0_3] 24 (0,0)) (by (with_reducible repeat (first|refine blk_drewN ?_ _|refine blk_drew ?_|refine blk_alloc ?_ _));exact BK141.out) hb);have n1_:=Aside0.mk (below_step (by repeat (first|(with_reducible first|exact HB.out|apply below_alloc|apply pw_below_drewN|apply below_drew1|refine below_set ?_ GE141.out)|exact HB.out)) hb);clear BK141;clear HB;have BK141:=n0_;have HB:=n1_;clear n0_ n1_;(try clear hb);(try clear hb2);(try clear hk);(try clear hi);have hcz36_0:w35.cell? ⟨gb141,0,none⟩ = some (.string a0_0):=(blk_cell BK141.out 0).trans rfl;have hcz36_1:w35.cell? ⟨gb141,1,none⟩ = some (.slice A0_1 l0_1.length c0_1):=(blk_cell BK141.out 1).trans rfl;have hcz36_2:w35.cell? ⟨gb141,2,none⟩ = some (.bool false):=(blk_cell BK141.out 2).trans rfl;have hcz36_3:w35.cell? ⟨gb141,3,none⟩ = some (.string a0_3):=(blk_cell BK141.out 3).trans rfl;have hfz36_0:=blk_frozen BK141.out 0;have hfz36_1:=blk_frozen BK141.out 1;have hfz36_2:=blk_frozen BK141.out 2;have hfz36_3:=blk_frozen BK141.out 3))
          go_ret
          exact ⟨by first|rfl|(simp <;> rfl)|(simp [*] <;> rfl),by repeat (first|(with_reducible first|exact HB.out|apply below_alloc|apply pw_below_drewN|apply below_drew1|refine below_set ?_ GE141.out)|exact HB.out)⟩
       ·replace c21:=Bool.eq_false_iff.mpr c21
        subst c21
        have H1:(some false) = some r:=by rw [if_neg (show ¬ (false = true) by decide)] at H;exact H
        clear H
        have H:=H1
        clear H1
        obtain rfl:=Option.some.inj H
        have hcz37_0:wr.cell? ⟨gb141,0,none⟩ = some (.string a0_0):=(blk_cell BK141.out 0).trans rfl
        have hcz37_1:wr.cell? ⟨gb141,1,none⟩ = some (.slice A0_1 l0_1.length c0_1):=(blk_cell BK141.out 1).trans rfl
        have hcz37_2:wr.cell? ⟨gb141,2,none⟩ = some (.bool a0_2):=(blk_cell BK141.out 2).trans rfl
        have hcz37_3:wr.cell? ⟨gb141,3,none⟩ = some (.string a0_3):=(blk_cell BK141.out 3).trans rfl
        have hfz37_0:=blk_frozen BK141.out 0
        have hfz37_1:=blk_frozen BK141.out 1
        have hfz37_2:=blk_frozen BK141.out 2
        have hfz37_3:=blk_frozen BK141.out 3
        go_wp2_with (first|((with_reducible refine gate_callee (f:=37) rfl ?_);refine goesL_ (some 40) rfl rfl Tryd.func37 (by kernel_rfl) rfl #[.string a0_3] rfl (by (try simp only [List.map_toArray,List.map_cons,List.map_nil]);first|done|rfl|(simp only [List.length_drop,List.length_take];rfl)) ?_;(with_reducible refine (impl_isNormal.calls k2 a0_3 false _ A20.out).mono ?_);rintro e w38 ⟨rfl,hb⟩;refine ⟨_,rfl,?_⟩;have n0_:=Aside0.mk (blk_below (g:=gb141) (o:=.cells #[.string a0_0,.slice A0_1 l0_1.length c0_1,.bool a0_2,.string a0_3] 24 (0,0)) (by (with_reducible repeat (first|refine blk_drewN ?_ _|refine blk_drew ?_|refine blk_alloc ?_ _));exact BK141.out) hb);have n1_:=Aside0.mk (below_step (by repeat (first|(with_reducible first|exact HB.out|apply below_alloc|apply pw_below_drewN|apply below_drew1|refine below_set ?_ GE141.out)|exact HB.out)) hb);clear BK141;clear HB;have BK141:=n0_;have HB:=n1_;clear n0_ n1_;(try clear hb);(try clear hb2);(try clear hk);(try clear hi)))
        go_ret
        exact ⟨by first|rfl|(simp <;> rfl)|(simp [*] <;> rfl),by repeat (first|(with_reducible first|exact HB.out|apply below_alloc|apply pw_below_drewN|apply below_drew1|refine below_set ?_ GE141.out)|exact HB.out)⟩

/-! ### slices_Clone_string_string: function 62 -/
/-- The same strings, in new memory. -/
def slices_Clone_string_string.f (l0:List ByteArray):Option (List ByteArray):=if l0.length * 16 ≤ 140737488355328 then some l0 else none
theorem slices_Clone_string_string.own {w:World} {base n:Nat} {v:Value} {xs:List ByteArray} (h:w.ownsRow base 9 1 v n (xs.map Value.string)) (hn:n = xs.length):Kd.R Kd.string 9 w base (fun _=>True) v xs:=by
 subst hn
 exact Kd.R_of_own h (fun _ _=>trivial)
theorem slices_Clone_string_string.calls (A0:Option Addr) (c0:Nat) (l0:List ByteArray) (r:List ByteArray) (w:World) (hr0:Kd.C Kd.string w A0 l0.length l0) (hc0:l0.length ≤ c0) (h:slices_Clone_string_string.f l0 = some r) :
  Calls Tryd.prog 62 #[.slice A0 l0.length c0] w fun e w'=>∃ v0_:Value,e = .returned (v0_) ∧ Kd.R Kd.string 9 w' w.heap.size (fun _=>True) v0_ r ∧ Below w.heap.size w w':=by
 unfold slices_Clone_string_string.f at h
 split at h
 rotate_left
 ·cases h
 rename_i hb
 obtain rfl:=Option.some.inj h
 cases l0 with
 | nil =>
  cases A0 with
  | none=>exact (Tryd.slices_Clone_string_nil 0 c0 w).mono fun e w' ⟨he,hw⟩=>⟨_,he,by rw [hw];exact Kd.R_nil _ _ _ _ _,hw ▸ Below.refl _ _⟩
  | some ad=>exact (Tryd.slices_Clone_string_zero ad c0 w).mono fun e w' ⟨v',he,ho,_,hbl⟩=>⟨v',he,slices_Clone_string_string.own (xs:=[]) ho rfl,hbl⟩
 | cons x l =>
  obtain ⟨ad,rfl,hc⟩:=hr0.2.2 (by simp)
  have hcell:∀ (j:Nat) y,(x :: l)[j]? = some y → w.cell? (ad.add j) = some (.string y):=fun j y hy=>by
   obtain ⟨c,_,hK,hcc⟩:=hc j y hy
   have hK':c = [.string y]:=hK
   subst hK'
   have:=hcc 0 _ rfl
   rwa [show j * Kd.string.sz + 0 = j by show j * 1 + 0 = j;omega] at this
  have h0:∃ u,w.cell? (ad.add 0) = some u:=⟨_,hcell 0 x rfl⟩
  have hp:=fun (j:Nat) y (hy:(x :: l)[j]? = some y)=>(strings_Join.plain (hcell j y hy) h0).1
  have hs:=(strings_Join.plain (hcell 0 x rfl) h0).2
  have:=Tryd.slices_Clone_string ad.block ad.off (x :: l).length c0 (x :: l) w (Nat.le_refl _) hb (fun j hj=>by
   rw [List.getD_eq_getElem?_getD,List.getElem?_eq_getElem hj]
   exact hp j _ (List.getElem?_eq_getElem hj))
  rw [show (⟨ad.block,ad.off,none⟩:Addr) = ad by cases ad;simp_all,List.take_length] at this
  exact this.mono fun e w' ⟨v',he,ho,_,hbl⟩=>⟨v',he,slices_Clone_string_string.own ho rfl,hbl⟩

/-! ### strings_explode: function 87 -/
/-- Nothing is told of a text that is taken apart into its letters: no road comes there. -/
def strings_explode.f (_a0:ByteArray) (_a1:Int):Option (List ByteArray):=none
theorem strings_explode.calls (a0:ByteArray) (a1:Int) (r:List ByteArray) (w:World) (h:strings_explode.f a0 a1 = some r) :
  Calls Tryd.prog 87 #[.string a0,.int .i64 a1] w fun e w'=>∃ v0_:Value,e = .returned (v0_) ∧ Kd.R Kd.string 9 w' w.heap.size (fun _=>True) v0_ r ∧ Below w.heap.size w w':=by
 cases h

/-! ### strings_Count: function 88 -/
/-- How often a text of one byte stands in another. (Of longer ones nothing is told.) -/
def strings_Count.f (a0 a1:ByteArray):Option Int:=if a1.size = 1 then some (Go.Lib.countByte a0.data.toList (a1.data.toList.headD 0)) else none
set_option maxHeartbeats 1000000 in
set_option maxRecDepth 100000 in
theorem strings_Count.calls (a0 a1:ByteArray) (r:Int) (w:World) (h:strings_Count.f a0 a1 = some r) :
  Calls Tryd.prog 88 #[.string a0,.string a1] w fun e w'=>e = .returned (.int .i64 r) ∧ ∃ nd,w' = w.drewN nd:=by
 unfold strings_Count.f at h
 split at h
 rotate_left
 ·cases h
 rename_i hs
 obtain rfl:=Option.some.inj h
 clear h
 have HH:=Aside0.mk (show ∀ h:0 < a1.size,((a1[0]'h).toNat:Int).toNat.toUInt8 = a1.data.toList.headD 0 by
  obtain ⟨c,rfl⟩:=Go.Lib.one_byte a1 hs
  intro _
  show ((c.toNat:Int)).toNat.toUInt8 = c
  simp)
 have h0:(((a1.size:Nat):Int) == 0) = false:=by rw [hs];rfl
 have h1:(((a1.size:Nat):Int) == 1) = true:=by rw [hs];rfl
 have hlt:0 < a1.size:=by omega
 generalize hx:a1.data.toList.headD 0 = x at HH ⊢
 clear hs hx
 go_enter Tryd.func88,Tryd.ntmps88
 go_wp2
 rw [run_callFunc_extern Tryd.func94 (by kernel_rfl) (by kernel_rfl) (by kernel_rfl) (e:=Extern.BytealgCount.count) (by kernel_rfl),Go.Lib.run_countString,HH.out hlt]
 simp only [Result.andThen]
 rw [Oper.upon_value]
 go_wp2
 go_ret
 exact ⟨rfl,0,rfl⟩

/-! ### strings_Index: function 89 -/
def strings_Index.f (a0:ByteArray) (a1:ByteArray):Option (Int):=(stringslite_Index.f a0 a1).bind fun t148=>(some t148)
theorem strings_Index.calls (a0:ByteArray) (a1:ByteArray) (r:Int) (w:World) (h:strings_Index.f a0 a1 = some r) :
  Calls Tryd.prog 89 #[.string a0,.string a1] w fun e w'=>e = .returned (.int .i64 r) ∧ Drawn0 w w':=by
 have H:((stringslite_Index.f a0 a1).bind fun t148=>(some t148)) = some r:=h
 clear h
 replace H:=Option.bind_eq_some_iff.mp H
 obtain ⟨t148,A30,H⟩:=H
 replace H:(some t148) = some r:=H
 have A3:=Aside0.mk A30
 clear A30
 obtain rfl:=Option.some.inj H
 go_enter Tryd.func89,Tryd.ntmps89
 go_wp2_with (first|((with_reducible refine gate_callee (f:=56) rfl ?_);refine goesL_ (some 7) rfl rfl Tryd.func56 (by kernel_rfl) rfl #[.string a0,.string a1] rfl (by (try simp only [List.map_toArray,List.map_cons,List.map_nil]);first|done|rfl|(simp only [List.length_drop,List.length_take];rfl)) ?_;(with_reducible refine (stringslite_Index.calls a0 a1 t148 _ A3.out).mono ?_);rintro e w' ⟨rfl,⟨nd,rfl⟩⟩;refine ⟨_,rfl,?_⟩))
 go_ret
 exact ⟨by first|rfl|(simp;done)|(simp only [i64_w,i32_w];done)|(simp only [i64_w,i32_w];rfl)|(simp [*];done)|(simp [emp_bne,emp_beq];done),by repeat (first|exact Drawn0.refl _|apply Drawn0.step)⟩

end Go.Proofs.YtochmlkladpfgaaDoor.P
