-- Written by a program of this session (patch_print.py over the kit's print; given texts in wip/given).
import Derived.Test.YtochmlkladpfgaaDoorPx0
import Derived.Test.YtochmlkladpfgaaDoorPx3
namespace Go.Proofs.YtochmlkladpfgaaDoor.P
open Go.RowKit Go.Proofs.YtochmlkladpfgaaDoorW.PrintWords Go.Proofs.YtochmlkladpfgaaDoorW.PrintLast Go.Proofs.YtochmlkladpfgaaDoorW.PrintMore
attribute [local go_sem] max2_int min2_int max_two min_two max_three min_three max_four min_four   -- for this text's walks alone
set_option linter.unusedVariables false
set_option linter.unusedSimpArgs false
set_option maxHeartbeats 8000000
set_option maxRecDepth 100000

/-! ### impl_EscNorm: function 52 -/
def impl_EscNorm.l0:Nat → ByteArray → List Int → Int → Option (ByteArray × Bool)
 | 0,_,_,_=>none
 | k + 1,x0,x4,x5=>if x5 < (x0.size:Int) then (if 0 ≤ x5 then (if (bt x0 x5) = 37 then ((impl_signByte.f x0 x5).bind fun bt117=>(if bt117.2 = true then ((impl_standsForItself.f bt117.1).bind fun t119=>(if t119 = true then (if x4.length < 140737488355328 then (impl_EscNorm.l0 k x0 (x4 ++ [bt117.1]) (wrap64 ((wrap64 (x5 + 2)) + 1))) else (none)) else (if 0 ≤ (bt117.1 / 16) then (if (bt117.1 / 16) < 16 then (if 0 ≤ (Go.bits .and .u8 bt117.1 15) then (if (Go.bits .and .u8 bt117.1 15) < 16 then ((some (([37,bt (⟨#[48,49,50,51,52,53,54,55,56,57,65,66,67,68,69,70]⟩:ByteArray) (bt117.1 / 16),bt (⟨#[48,49,50,51,52,53,54,55,56,57,65,66,67,68,69,70]⟩:ByteArray) (Go.bits .and .u8 bt117.1 15)]:List Int):List Int)).bind fun y123=>(if x4.length + y123.length < 140737488355328 then (impl_EscNorm.l0 k x0 (x4 ++ y123) (wrap64 ((wrap64 (x5 + 2)) + 1))) else (none))) else (none)) else (none)) else (none)) else (none)))) else (some ((⟨#[]⟩:ByteArray),false)))) else ((impl_standsForItself.f (bt x0 x5)).bind fun t129=>(if t129 = true then (if x4.length < 140737488355328 then (impl_EscNorm.l0 k x0 (x4 ++ [bt x0 x5]) (wrap64 (x5 + 1))) else (none)) else (if 0 ≤ ((bt x0 x5) / 16) then (if ((bt x0 x5) / 16) < 16 then (if 0 ≤ (Go.bits .and .u8 (bt x0 x5) 15) then (if (Go.bits .and .u8 (bt x0 x5) 15) < 16 then ((some (([37,bt (⟨#[48,49,50,51,52,53,54,55,56,57,65,66,67,68,69,70]⟩:ByteArray) ((bt x0 x5) / 16),bt (⟨#[48,49,50,51,52,53,54,55,56,57,65,66,67,68,69,70]⟩:ByteArray) (Go.bits .and .u8 (bt x0 x5) 15)]:List Int):List Int)).bind fun y133=>(if x4.length + y133.length < 140737488355328 then (impl_EscNorm.l0 k x0 (x4 ++ y133) (wrap64 (x5 + 1))) else (none))) else (none)) else (none)) else (none)) else (none))))) else (none)) else (some (strOfNums x4,true))
def impl_EscNorm.f (k:Nat) (a0:ByteArray):Option (ByteArray × Bool):=if (a0.size:Int) > 60 then (some ((⟨#[]⟩:ByteArray),false)) else (impl_EscNorm.l0 k a0 ([]:List Int) 0)
theorem impl_EscNorm.mono_l:∀ k,(∀ y0 y1 y2,LeO (impl_EscNorm.l0 k y0 y1 y2) (impl_EscNorm.l0 (k + 1) y0 y1 y2))
 | 0=>fun _ _ _ r h=>by simp [impl_EscNorm.l0] at h
 | k + 1=>by
  have ih0:=impl_EscNorm.mono_l k
  ·intro y0 y1 y2
   unfold impl_EscNorm.l0
   repeat' first
   | (with_reducible exact ih0 _ _ _)
   | (with_reducible exact LeO.refl _)
   | (with_reducible exact LeO.none _)
   | (with_reducible refine LeO.ite ?_ ?_)
   | (with_reducible refine LeO.bind ?_ (fun _=>?_))
   | exact ih0 _ _ _
   | exact LeO.none _
   | refine LeO.ite ?_ ?_
   | refine LeO.bind ?_ (fun _=>?_)
theorem impl_EscNorm.mono:∀ a0 k,LeO (impl_EscNorm.f k a0) (impl_EscNorm.f (k + 1) a0):=by
 intro a0 k
 have ih0:=impl_EscNorm.mono_l k
 unfold impl_EscNorm.f
 repeat' first
   | (with_reducible exact ih0 _ _ _)
   | (with_reducible exact LeO.refl _)
   | (with_reducible exact LeO.none _)
   | (with_reducible refine LeO.ite ?_ ?_)
   | (with_reducible refine LeO.bind ?_ (fun _=>?_))
   | exact ih0 _ _ _
   | exact LeO.none _
   | refine LeO.ite ?_ ?_
   | refine LeO.bind ?_ (fun _=>?_)
def impl_EscNorm.T16:Bool × List (List Nat × List Nat):=(true,[([],[]),([],[]),([1],[1]),([2],[2]),([],[]),([4],[4]),([5],[5]),([3,6],[3,6]),([0,7],[0,7]),([8,8,0,1,2,3,4,5,6,7,8],[0,8])])
def impl_EscNorm.B16:List Nat:=[0,0,2,6,0,16,48,126,255,511]
theorem impl_EscNorm.tab16:rtab .any (opsOf Tryd.f52 16) = impl_EscNorm.T16:=by kernel_rfl
theorem impl_EscNorm.bits16:waitsOk impl_EscNorm.T16.2 impl_EscNorm.B16 = true:=by kernel_rfl
theorem impl_EscNorm.calls (k:Nat) (a0:ByteArray) (r1:ByteArray) (r2:Bool) (w:World) (h:impl_EscNorm.f k a0 = some (r1,r2)) :
  Calls Tryd.prog 52 #[.string a0] w fun e w'=>e = .returned (.tuple #[.string r1,.bool r2]) ∧ Below w.heap.size w w':=by
 have HB:=Aside0.mk (Below.refl w.heap.size w)
 have H:(if (a0.size:Int) > 60 then (some ((⟨#[]⟩:ByteArray),false)) else (impl_EscNorm.l0 k a0 ([]:List Int) 0)) = some (r1,r2):=h
 clear h
 by_cases c2:(a0.size:Int) > 60
 ·rw [if_pos c2] at H
  have c2b0:decide (60 < (a0.size:Int)) = true:=decide_eq_true c2
  have c2b1:decide (60 < a0.size) = true:=decide_eq_true (by omega)
  clear c2
  simp only [Option.some.injEq,Prod.mk.injEq] at H
  obtain ⟨rfl,rfl⟩:=H
  go_enter Tryd.func52,Tryd.ntmps52
  go_wp2
  go_ret2
  exact ⟨by first|rfl|(simp <;> rfl)|(simp [*] <;> rfl),by repeat (first|(with_reducible first|exact HB.out|apply below_alloc|apply pw_below_drewN|apply below_drew1)|exact HB.out)⟩
 ·rw [if_neg c2] at H
  have c2b0:decide (60 < (a0.size:Int)) = false:=decide_eq_false c2
  have c2b1:decide (60 < a0.size) = false:=decide_eq_false (by omega)
  clear c2
  have H':=Aside0.mk H
  clear H
  go_enter Tryd.func52,Tryd.ntmps52
  go_wp2
  go_loopg [4,5] k (fun kq v4 v5 w'=>∃ (x4_1:List Int) (x5_1:Int),v5 = .int .i64 x5_1 ∧ Aside0 (impl_EscNorm.l0 kq a0 x4_1 x5_1 = some (r1,r2)) ∧ Aside0 (kq ≤ k) ∧ Aside0 (Kd.R (Kd.int .u8) 5 w' w.heap.size (fun _=>True) v4 x4_1) ∧ Aside0 (Below w.heap.size w w'))
  case atStart=>exact ⟨(([]:List Int)),(0),(by first|rfl|(simp;done)|(simp only [i64_w,i32_w];done)|(simp only [i64_w,i32_w];rfl)|(simp [*];done)|(simp [emp_bne,emp_beq];done)),H',⟨Nat.le_refl _⟩,⟨by first|exact Kd.R_nil _ _ _ _ _|exact Kd.N_nil _ _ _ _ _|exact Kd.V_nil _ _ _ _ _|exact Kd.Q_nil _ _ _ _ _|exact Kd.S_nil _ _ _ _ _⟩,⟨by repeat (first|(with_reducible first|exact HB.out|apply below_alloc|apply pw_below_drewN|apply below_drew1)|exact HB.out)⟩⟩
  case round =>
   clear H'
   try clear c2
   try clear c2b0
   try clear c2b1
   try clear p2
   obtain ⟨x4_1,x5_1,rfl,HA,HK1,HO_4,HB⟩:=hrel
   cases gk with
   | zero=>exact absurd HA.out (by simp [impl_EscNorm.l0])
   | succ k1 =>
    have H:=HA.out
    clear HA
    simp only [impl_EscNorm.l0] at H
    by_cases c3:x5_1 < (a0.size:Int)
    ·rw [if_pos c3] at H
     have c3b0:decide (x5_1 < (a0.size:Int)) = true:=decide_eq_true c3
     clear c3
     by_cases c4:0 ≤ x5_1
     ·rw [if_pos c4] at H
      have c4b0:decide (0 ≤ x5_1) = true:=decide_eq_true c4
      clear c4
      by_cases c6:(bt a0 x5_1) = 37
      ·rw [if_pos c6] at H
       have c6b0:((bt a0 x5_1) == 37) = true:=beq_iff_eq.mpr c6
       have c6b1:((bt a0 x5_1) != 37) = false:=bne_eq_false_iff_eq.mpr c6
       clear c6
       replace H:=Option.bind_eq_some_iff.mp H
       obtain ⟨⟨t117,t118⟩,A70,H⟩:=H
       replace H:(if t118 = true then ((impl_standsForItself.f t117).bind fun t119=>(if t119 = true then (if x4_1.length < 140737488355328 then (impl_EscNorm.l0 k1 a0 (x4_1 ++ [t117]) (wrap64 ((wrap64 (x5_1 + 2)) + 1))) else (none)) else (if 0 ≤ (t117 / 16) then (if (t117 / 16) < 16 then (if 0 ≤ (Go.bits .and .u8 t117 15) then (if (Go.bits .and .u8 t117 15) < 16 then ((some (([37,bt (⟨#[48,49,50,51,52,53,54,55,56,57,65,66,67,68,69,70]⟩:ByteArray) (t117 / 16),bt (⟨#[48,49,50,51,52,53,54,55,56,57,65,66,67,68,69,70]⟩:ByteArray) (Go.bits .and .u8 t117 15)]:List Int):List Int)).bind fun y123=>(if x4_1.length + y123.length < 140737488355328 then (impl_EscNorm.l0 k1 a0 (x4_1 ++ y123) (wrap64 ((wrap64 (x5_1 + 2)) + 1))) else (none))) else (none)) else (none)) else (none)) else (none)))) else (some ((⟨#[]⟩:ByteArray),false))) = some (r1,r2):=H
       have A7:=Aside0.mk A70
       clear A70
       by_cases c8:t118 = true
       ·subst c8
        have H1:((impl_standsForItself.f t117).bind fun t119=>(if t119 = true then (if x4_1.length < 140737488355328 then (impl_EscNorm.l0 k1 a0 (x4_1 ++ [t117]) (wrap64 ((wrap64 (x5_1 + 2)) + 1))) else (none)) else (if 0 ≤ (t117 / 16) then (if (t117 / 16) < 16 then (if 0 ≤ (Go.bits .and .u8 t117 15) then (if (Go.bits .and .u8 t117 15) < 16 then ((some (([37,bt (⟨#[48,49,50,51,52,53,54,55,56,57,65,66,67,68,69,70]⟩:ByteArray) (t117 / 16),bt (⟨#[48,49,50,51,52,53,54,55,56,57,65,66,67,68,69,70]⟩:ByteArray) (Go.bits .and .u8 t117 15)]:List Int):List Int)).bind fun y123=>(if x4_1.length + y123.length < 140737488355328 then (impl_EscNorm.l0 k1 a0 (x4_1 ++ y123) (wrap64 ((wrap64 (x5_1 + 2)) + 1))) else (none))) else (none)) else (none)) else (none)) else (none)))) = some (r1,r2):=by rw [if_pos rfl] at H;exact H
        clear H
        have H:=H1
        clear H1
        replace H:=Option.bind_eq_some_iff.mp H
        obtain ⟨t119,A90,H⟩:=H
        replace H:(if t119 = true then (if x4_1.length < 140737488355328 then (impl_EscNorm.l0 k1 a0 (x4_1 ++ [t117]) (wrap64 ((wrap64 (x5_1 + 2)) + 1))) else (none)) else (if 0 ≤ (t117 / 16) then (if (t117 / 16) < 16 then (if 0 ≤ (Go.bits .and .u8 t117 15) then (if (Go.bits .and .u8 t117 15) < 16 then ((some (([37,bt (⟨#[48,49,50,51,52,53,54,55,56,57,65,66,67,68,69,70]⟩:ByteArray) (t117 / 16),bt (⟨#[48,49,50,51,52,53,54,55,56,57,65,66,67,68,69,70]⟩:ByteArray) (Go.bits .and .u8 t117 15)]:List Int):List Int)).bind fun y123=>(if x4_1.length + y123.length < 140737488355328 then (impl_EscNorm.l0 k1 a0 (x4_1 ++ y123) (wrap64 ((wrap64 (x5_1 + 2)) + 1))) else (none))) else (none)) else (none)) else (none)) else (none))) = some (r1,r2):=H
        have A9:=Aside0.mk A90
        clear A90
        by_cases c10:t119 = true
        ·subst c10
         have H1:(if x4_1.length < 140737488355328 then (impl_EscNorm.l0 k1 a0 (x4_1 ++ [t117]) (wrap64 ((wrap64 (x5_1 + 2)) + 1))) else (none)) = some (r1,r2):=by rw [if_pos rfl] at H;exact H
         clear H
         have H:=H1
         clear H1
         by_cases c11:x4_1.length < 140737488355328
         ·rw [if_pos c11] at H
          have LMc11:=Aside0.mk c11
          clear c11
          obtain ⟨y120,hy120⟩:∃ y_:List Int,y_ = (x4_1 ++ [t117]):=⟨_,rfl⟩
          replace H:(impl_EscNorm.l0 k1 a0 y120 (wrap64 ((wrap64 (x5_1 + 2)) + 1))) = some (r1,r2):=by first|(rw [hy120];with_reducible exact H)|(have H2_:=(Option.bind_some _ _).symm.trans H;rw [hy120];with_reducible exact H2_)|(have H2_:=(Option.bind_some _ _).symm.trans H;with_reducible exact H2_)|with_reducible exact H|(rw [hy120];exact H)|exact H
          have Ny120:=Aside0.mk hy120
          clear hy120
          have H':=Aside0.mk H
          clear H
          have p5:0 ≤ (x5_1:Int):=of_decide_eq_true (by first|(with_reducible assumption)|assumption)
          have q5:x5_1 < (a0.size:Int):=of_decide_eq_true (by first|(with_reducible assumption)|assumption)
          have hx5:=bt_at a0 x5_1
          replace p5:=eq_true p5
          replace q5:=eq_true q5
          go_wp2_with (first|((with_reducible refine gate_callee (f:=68) rfl ?_);refine goesL_ (some 26) rfl rfl Tryd.func68 (by kernel_rfl) rfl #[.string a0,.int .i64 x5_1] rfl (by (try simp only [List.map_toArray,List.map_cons,List.map_nil]);first|done|rfl|(simp only [List.length_drop,List.length_take];rfl)) ?_;(with_reducible refine (impl_signByte.calls a0 x5_1 t117 true _ A7.out).mono ?_);rintro e w12 ⟨rfl,hb⟩;refine ⟨_,rfl,?_⟩;have n0_:=Aside0.mk (Kd.R_below (by (with_reducible repeat (first|apply Kd.R_alloc|apply Kd.R_drewN|apply Kd.R_drew));exact HO_4.out) hb);have n1_:=Aside0.mk (below_step (by repeat (first|(with_reducible first|exact HB.out|apply below_alloc|apply pw_below_drewN|apply below_drew1)|exact HB.out)) hb);clear HO_4;clear HB;have HO_4:=n0_;have HB:=n1_;clear n0_ n1_;(try clear hb);(try clear hb2);(try clear hk);(try clear hi))|((with_reducible refine gate_callee (f:=69) rfl ?_);refine goesL_ (some 35) rfl rfl Tryd.func69 (by kernel_rfl) rfl #[.int .u8 t117] rfl (by (try simp only [List.map_toArray,List.map_cons,List.map_nil]);first|done|rfl|(simp only [List.length_drop,List.length_take];rfl)) ?_;(with_reducible refine (impl_standsForItself.calls t117 true _ A9.out).mono ?_);rintro e w' ⟨rfl,⟨nd,rfl⟩⟩;refine ⟨_,rfl,?_⟩)|((with_reducible refine gate_builtin (b:=.append) (xs:=#[.tmp 36,.tmp 38]) rfl ?_);at_builtin;refine Kd.R_append (Kd.int .u8) (w0:=w) w.heap.size rfl (.tmp 36) (.tmp 38) 30 5 (.int .u8 0) 1 rfl Tryd.underlying30 info5 rfl (by decide) (by omega) u4 x4_1 t117 [.int .u8 t117] (fun _=>True) (fun _=>False) rfl rfl ?aP (fun _ hk=>hk.elim) ?aF ?aO ?aB ?aS ?aL ?_;(case aP=>exact rfl);(case aB=>exact (by repeat (first|(with_reducible first|exact HB.out|apply below_alloc|apply pw_below_drewN|apply below_drew1)|exact HB.out)));(case aF=>exact (fun _ _=>trivial));(case aO=>exact (by (with_reducible repeat (first|apply Kd.R_alloc|apply Kd.R_drewN|apply Kd.R_drew));exact HO_4.out));(case aS=>exact (below_size (by repeat (first|(with_reducible first|exact HB.out|apply below_alloc|apply pw_below_drewN|apply below_drew1)|exact HB.out))));(case aL=>have:=LMc11.out;omega);intro v121 w13 ho hb hg hat;rw [← Ny120.out] at ho;have n0_:=Aside0.mk (hb);have n1_:=Aside0.mk (ho);clear HB;clear HO_4;have HB:=n0_;have HO122:=n1_;clear n0_ n1_;clear ho hb hg hat))
          go_roundg k1
          case measure=>have:=HK1.out;omega
          case rel=>exact ⟨(y120),(wrap64 ((wrap64 (x5_1 + 2)) + 1)),(by first|rfl|(simp;done)|(simp only [i64_w,i32_w];done)|(simp only [i64_w,i32_w];rfl)|(simp [*];done)|(simp [emp_bne,emp_beq];done)),H',⟨by have:=HK1.out;omega⟩,⟨by (with_reducible repeat (first|apply Kd.R_alloc|apply Kd.R_drewN|apply Kd.R_drew));exact HO122.out⟩,⟨by repeat (first|(with_reducible first|exact HB.out|apply below_alloc|apply pw_below_drewN|apply below_drew1)|exact HB.out)⟩⟩
         ·rw [if_neg c11] at H
          exact absurd H (by simp)
        ·replace c10:=Bool.eq_false_iff.mpr c10
         subst c10
         have H1:(if 0 ≤ (t117 / 16) then (if (t117 / 16) < 16 then (if 0 ≤ (Go.bits .and .u8 t117 15) then (if (Go.bits .and .u8 t117 15) < 16 then ((some (([37,bt (⟨#[48,49,50,51,52,53,54,55,56,57,65,66,67,68,69,70]⟩:ByteArray) (t117 / 16),bt (⟨#[48,49,50,51,52,53,54,55,56,57,65,66,67,68,69,70]⟩:ByteArray) (Go.bits .and .u8 t117 15)]:List Int):List Int)).bind fun y123=>(if x4_1.length + y123.length < 140737488355328 then (impl_EscNorm.l0 k1 a0 (x4_1 ++ y123) (wrap64 ((wrap64 (x5_1 + 2)) + 1))) else (none))) else (none)) else (none)) else (none)) else (none)) = some (r1,r2):=by rw [if_neg (show ¬ (false = true) by decide)] at H;exact H
         clear H
         have H:=H1
         clear H1
         obtain ⟨ji14,hji14⟩:∃ j_:Int,(t117 / 16) = j_:=⟨_,rfl⟩
         replace H:(if 0 ≤ (ji14) then (if (ji14) < 16 then (if 0 ≤ (Go.bits .and .u8 t117 15) then (if (Go.bits .and .u8 t117 15) < 16 then ((some (([37,bt (⟨#[48,49,50,51,52,53,54,55,56,57,65,66,67,68,69,70]⟩:ByteArray) (ji14),bt (⟨#[48,49,50,51,52,53,54,55,56,57,65,66,67,68,69,70]⟩:ByteArray) (Go.bits .and .u8 t117 15)]:List Int):List Int)).bind fun y123=>(if x4_1.length + y123.length < 140737488355328 then (impl_EscNorm.l0 k1 a0 (x4_1 ++ y123) (wrap64 ((wrap64 (x5_1 + 2)) + 1))) else (none))) else (none)) else (none)) else (none)) else (none)) = some (r1,r2):=by first|(rw [hji14] at H;exact H)|(simp only [hji14] at H ⊢;exact H)
         (try rw [hji14] at A7)
         (try rw [hji14] at A9)
         by_cases c15:0 ≤ (ji14)
         ·rw [if_pos c15] at H
          have c15b0:decide (0 ≤ (ji14)) = true:=decide_eq_true c15
          clear c15
          by_cases c16:(ji14) < 16
          ·rw [if_pos c16] at H
           have c16b0:decide ((ji14) < 16) = true:=decide_eq_true c16
           clear c16
           by_cases c18:0 ≤ (Go.bits .and .u8 t117 15)
           ·rw [if_pos c18] at H
            have c18b0:decide (0 ≤ (Go.bits .and .u8 t117 15)) = true:=decide_eq_true c18
            clear c18
            by_cases c19:(Go.bits .and .u8 t117 15) < 16
            ·rw [if_pos c19] at H
             have c19b0:decide ((Go.bits .and .u8 t117 15) < 16) = true:=decide_eq_true c19
             clear c19
             obtain ⟨y123,hy123⟩:∃ y_:List Int,y_ = (([37,bt (⟨#[48,49,50,51,52,53,54,55,56,57,65,66,67,68,69,70]⟩:ByteArray) (ji14),bt (⟨#[48,49,50,51,52,53,54,55,56,57,65,66,67,68,69,70]⟩:ByteArray) (Go.bits .and .u8 t117 15)]:List Int)):=⟨_,rfl⟩
             replace H:(if x4_1.length + y123.length < 140737488355328 then (impl_EscNorm.l0 k1 a0 (x4_1 ++ y123) (wrap64 ((wrap64 (x5_1 + 2)) + 1))) else (none)) = some (r1,r2):=by first|(rw [hy123];with_reducible exact H)|(have H2_:=(Option.bind_some _ _).symm.trans H;rw [hy123];with_reducible exact H2_)|(have H2_:=(Option.bind_some _ _).symm.trans H;with_reducible exact H2_)|with_reducible exact H|(rw [hy123];exact H)|exact H
             have Ny123:=Aside0.mk hy123
             clear hy123
             by_cases c21:x4_1.length + y123.length < 140737488355328
             ·rw [if_pos c21] at H
              have LMc21:=Aside0.mk c21
              clear c21
              obtain ⟨y126,hy126⟩:∃ y_:List Int,y_ = (x4_1 ++ y123):=⟨_,rfl⟩
              replace H:(impl_EscNorm.l0 k1 a0 y126 (wrap64 ((wrap64 (x5_1 + 2)) + 1))) = some (r1,r2):=by first|(rw [hy126];with_reducible exact H)|(have H2_:=(Option.bind_some _ _).symm.trans H;rw [hy126];with_reducible exact H2_)|(have H2_:=(Option.bind_some _ _).symm.trans H;with_reducible exact H2_)|with_reducible exact H|(rw [hy126];exact H)|exact H
              have Ny126:=Aside0.mk hy126
              clear hy126
              have H':=Aside0.mk H
              clear H
              have p5:0 ≤ (x5_1:Int):=of_decide_eq_true (by first|(with_reducible assumption)|assumption)
              have q5:x5_1 < (a0.size:Int):=of_decide_eq_true (by first|(with_reducible assumption)|assumption)
              have hx5:=bt_at a0 x5_1
              replace p5:=eq_true p5
              replace q5:=eq_true q5
              try go_wp2_with (first|((with_reducible refine gate_callee (f:=68) rfl ?_);refine goesL_ (some 26) rfl rfl Tryd.func68 (by kernel_rfl) rfl #[.string a0,.int .i64 x5_1] rfl (by (try simp only [List.map_toArray,List.map_cons,List.map_nil]);first|done|rfl|(simp only [List.length_drop,List.length_take];rfl)) ?_;(with_reducible refine (impl_signByte.calls a0 x5_1 t117 true _ A7.out).mono ?_);rintro e w22 ⟨rfl,hb⟩;refine ⟨_,rfl,?_⟩;have n0_:=Aside0.mk (Kd.R_below (by (with_reducible repeat (first|apply Kd.R_alloc|apply Kd.R_drewN|apply Kd.R_drew));exact HO_4.out) hb);have n1_:=Aside0.mk (below_step (by repeat (first|(with_reducible first|exact HB.out|apply below_alloc|apply pw_below_drewN|apply below_drew1)|exact HB.out)) hb);clear HO_4;clear HB;have HO_4:=n0_;have HB:=n1_;clear n0_ n1_;(try clear hb);(try clear hb2);(try clear hk);(try clear hi))|((with_reducible refine gate_callee (f:=69) rfl ?_);refine goesL_ (some 35) rfl rfl Tryd.func69 (by kernel_rfl) rfl #[.int .u8 t117] rfl (by (try simp only [List.map_toArray,List.map_cons,List.map_nil]);first|done|rfl|(simp only [List.length_drop,List.length_take];rfl)) ?_;(with_reducible refine (impl_standsForItself.calls t117 false _ A9.out).mono ?_);rintro e w' ⟨rfl,⟨nd,rfl⟩⟩;refine ⟨_,rfl,?_⟩))
              (try (rw [drewN_self w22];generalize hq_:World.drewN w22 _ = w22;have n0_:Aside0 (Kd.R (Kd.int .u8) 5 w22 w.heap.size (fun _=>True) u4 x4_1):=⟨by rw [← hq_];exact (by (with_reducible repeat (first|apply Kd.R_alloc|apply Kd.R_drewN|apply Kd.R_drew));exact HO_4.out)⟩;have n1_:Aside0 (Below w.heap.size w w22):=⟨by rw [← hq_];exact (by repeat (first|(with_reducible first|exact HB.out|apply below_alloc|apply pw_below_drewN|apply below_drew1)|exact HB.out))⟩;clear HO_4 HB hq_;have HO_4:=n0_;have HB:=n1_;clear n0_ n1_))
              have n0_:=Aside0.mk (Kd.R_drew HO_4.out)
              have n1_:=Aside0.mk (below_drew1 HB.out)
              clear HO_4
              clear HB
              have HO_4:=n0_
              have HB:=n1_
              clear n0_ n1_
              have p17:0 ≤ ((ji14):Int):=of_decide_eq_true (by first|(with_reducible assumption)|assumption)
              have q17:(ji14) < (16:Int):=of_decide_eq_true (by first|(with_reducible assumption)|assumption)
              have hx17:=bt_at (⟨#[48,49,50,51,52,53,54,55,56,57,65,66,67,68,69,70]⟩:ByteArray) (ji14)
              replace p17:=eq_true p17
              replace q17:=eq_true q17
              have p20:0 ≤ ((Go.bits .and .u8 t117 15):Int):=of_decide_eq_true (by first|(with_reducible assumption)|assumption)
              have q20:(Go.bits .and .u8 t117 15) < (16:Int):=of_decide_eq_true (by first|(with_reducible assumption)|assumption)
              have hx20:=bt_at (⟨#[48,49,50,51,52,53,54,55,56,57,65,66,67,68,69,70]⟩:ByteArray) (Go.bits .and .u8 t117 15)
              replace p20:=eq_true p20
              replace q20:=eq_true q20
              refine start_ (n:=10) (S:=fun w'=>True) (ds:=[]) #[false,false,false,false,false,false,false,false,false,false] (by kernel_rfl) rfl rfl trivial (fun hHeld=>?_);refine with_tabW impl_EscNorm.tab16 impl_EscNorm.bits16 (fun HT_ HW_=>?_)
              generalize w22.drew = w23 at HO_4 HB hHeld ⊢
              refine pure_ (i:=0) (N:=some 40) (v:=?_) (a':=?_) #[true,false,false,false,false,false,false,false,false,false] rfl rfl (any_of HT_.out (by kernel_rfl)) (fun _ _ _ h=>h) (Or.inl ⟨by rfl,?_⟩) ?_ ?_
              rotate_left
              ·intro w'
               go_simp
               with_reducible rfl
              rotate_left
              ·simp only [Act.put,List.setIfInBounds_toArray,List.set_cons_zero,List.set_cons_succ,i64_w,i32_w]
               rfl
              refine pure_ (i:=1) (N:=some 41) (v:=?_) (a':=?_) #[true,true,false,false,false,false,false,false,false,false] rfl rfl (any_of HT_.out (by kernel_rfl)) (fun _ _ _ h=>h) (Or.inl ⟨by rfl,?_⟩) ?_ ?_
              rotate_left
              ·intro w'
               go_simp
               with_reducible rfl
              rotate_left
              ·simp only [Act.put,List.setIfInBounds_toArray,List.set_cons_zero,List.set_cons_succ,i64_w,i32_w]
               rfl
              refine pure_ (i:=2) (N:=some 42) (v:=?_) (a':=?_) #[true,true,true,false,false,false,false,false,false,false] rfl rfl (any_of HT_.out (by kernel_rfl)) (fun _ _ _ h=>h) (Or.inl ⟨by rfl,?_⟩) ?_ ?_
              rotate_left
              ·intro w'
               go_simp
               with_reducible rfl
              rotate_left
              ·simp only [Act.put,List.setIfInBounds_toArray,List.set_cons_zero,List.set_cons_succ,i64_w,i32_w]
               rfl
              refine pure_ (i:=4) (N:=some 44) (v:=?_) (a':=?_) #[true,true,true,false,true,false,false,false,false,false] rfl rfl (any_of HT_.out (by kernel_rfl)) (fun _ _ _ h=>h) (Or.inl ⟨by rfl,?_⟩) ?_ ?_
              rotate_left
              ·intro w'
               go_simp
               with_reducible rfl
              rotate_left
              ·simp only [Act.put,List.setIfInBounds_toArray,List.set_cons_zero,List.set_cons_succ,i64_w,i32_w]
               rfl
              refine pure_ (i:=5) (N:=some 45) (v:=?_) (a':=?_) #[true,true,true,false,true,true,false,false,false,false] rfl rfl (any_of HT_.out (by kernel_rfl)) (fun _ _ _ h=>h) (Or.inl ⟨by rfl,?_⟩) ?_ ?_
              rotate_left
              ·intro w'
               go_simp
               with_reducible rfl
              rotate_left
              ·simp only [Act.put,List.setIfInBounds_toArray,List.set_cons_zero,List.set_cons_succ,i64_w,i32_w]
               rfl
              refine take_ (i:=3) (N:=some 43) (v:=?_) (a':=?_) #[true,true,true,true,true,true,false,false,false,false] rfl rfl (take_ofW HT_.out HW_.out (by kernel_rfl)) (fun _ _ _ h=>h) (Or.inl ⟨by rfl,?_⟩) hHeld ?_ ?_
              rotate_left
              ·intro w' _
               go_simp
               with_reducible rfl
              rotate_left
              ·simp only [Act.put,List.setIfInBounds_toArray,List.set_cons_zero,List.set_cons_succ,i64_w,i32_w]
               rfl
              refine take_ (i:=6) (N:=some 46) (v:=?_) (a':=?_) #[true,true,true,true,true,true,true,false,false,false] rfl rfl (take_ofW HT_.out HW_.out (by kernel_rfl)) (fun _ _ _ h=>h) (Or.inl ⟨by rfl,?_⟩) hHeld ?_ ?_
              rotate_left
              ·intro w' _
               go_simp
               with_reducible rfl
              rotate_left
              ·simp only [Act.put,List.setIfInBounds_toArray,List.set_cons_zero,List.set_cons_succ,i64_w,i32_w]
               rfl
              refine one_ (i:=7) (N:=some 47) #[true,true,true,true,true,true,true,true,false,false] rfl rfl (one_of HT_.out (by kernel_rfl)) (by decide) (fun K hK=>?_)
              refine Kd.R_lit_step (Kd.int .u8) _ 5 ?hg (N:=47) ?hd (xs:=([37,bt (⟨#[48,49,50,51,52,53,54,55,56,57,65,66,67,68,69,70]⟩:ByteArray) (ji14),bt (⟨#[48,49,50,51,52,53,54,55,56,57,65,66,67,68,69,70]⟩:ByteArray) (Go.bits .and .u8 t117 15)]:List Int)) (inner:=[.int .u8 37,.int .u8 (bt (⟨#[48,49,50,51,52,53,54,55,56,57,65,66,67,68,69,70]⟩:ByteArray) (ji14)),.int .u8 (bt (⟨#[48,49,50,51,52,53,54,55,56,57,65,66,67,68,69,70]⟩:ByteArray) (Go.bits .and .u8 t117 15))]) (ok:=fun _=>True) (okp:=fun _=>True) ?hr ?hp (fun _ hk=>hk) trivial (Below.refl _ _) (Nat.le_refl _) (by simp) ?_;(case hd=>rfl);(case hg=>rfl);(case hr=>first|(go_simp;done)|(go_simp;rfl));(case hp=>exact (Reps.one (show Kd.M (Kd.int .u8) _ _ _ 37 [.int .u8 37] from rfl) (Reps.one (show Kd.M (Kd.int .u8) _ _ _ (bt (⟨#[48,49,50,51,52,53,54,55,56,57,65,66,67,68,69,70]⟩:ByteArray) (ji14)) [.int .u8 (bt (⟨#[48,49,50,51,52,53,54,55,56,57,65,66,67,68,69,70]⟩:ByteArray) (ji14))] from rfl) (Reps.one (show Kd.M (Kd.int .u8) _ _ _ (bt (⟨#[48,49,50,51,52,53,54,55,56,57,65,66,67,68,69,70]⟩:ByteArray) (Go.bits .and .u8 t117 15)) [.int .u8 (bt (⟨#[48,49,50,51,52,53,54,55,56,57,65,66,67,68,69,70]⟩:ByteArray) (Go.bits .and .u8 t117 15))] from rfl) (Reps.none _ _)))))
              intro v124 w24 ho25 hb hg_ hnew_
              clear hg_ hnew_
              (first|rw [← Ny123.out] at ho25|(simp only [Int.reduceToNat] at ho25;rw [← Ny123.out] at ho25))
              have n0_:=Aside0.mk (Kd.R_elder' (by (with_reducible repeat (first|apply Kd.R_alloc|apply Kd.R_drewN|apply Kd.R_drew));exact HO_4.out) (Kd.R_base ho25) hb)
              have n1_:=Aside0.mk (Kd.R_lower (Kd.R_new' ho25 (Kd.R_lt (by (with_reducible repeat (first|apply Kd.R_alloc|apply Kd.R_drewN|apply Kd.R_drew));exact HO_4.out))) (below_size (by repeat (first|(with_reducible first|exact HB.out|apply below_alloc|apply pw_below_drewN|apply below_drew1)|exact HB.out))))
              have n2_:=Aside0.mk (below_step (by repeat (first|(with_reducible first|exact HB.out|apply below_alloc|apply pw_below_drewN|apply below_drew1)|exact HB.out)) hb)
              clear HO_4
              clear HB
              have HO_4:=n0_
              have HO125:=n1_
              have HB:=n2_
              clear n0_ n1_ n2_
              clear hb ho25
              obtain ⟨Ao27,co27,eo27⟩:=Kd.R_slice HO125.out
              (first|subst eo27|(injection eo27 with f1_ f2_ f3_;have f4_:=f1_.symm;have f5_:=f3_.symm;clear f1_ f2_ f3_;subst f4_;subst f5_))
              refine hK.out _ _ trivial (fun hHeld=>?_)
              clear hK K
              refine norm_ (a':=?_) ?_ ?_
              rotate_left
              ·show Act.put _ (some 47) _ = _
               simp only [Act.put,List.setIfInBounds_toArray,List.set_cons_zero,List.set_cons_succ,i64_w,i32_w]
               rfl
              refine one_ (i:=8) (N:=some 48) #[true,true,true,true,true,true,true,true,true,false] rfl rfl (one_of HT_.out (by kernel_rfl)) (by decide) (fun K hK=>?_)
              refine Kd.R_append_rows_step (Kd.int .u8) (w0:=w) w.heap.size (by rfl) (.tmp 40) (.tmp 47) 30 5 (.int .u8 0) 1 rfl Tryd.underlying30 info5 rfl (by decide) (by omega) u4 x4_1 y123 _ _ _ (fun k_=>some k_ ≠ (.slice Ao27 y123.length co27:Value).ownBlock) (fun _=>False) rfl rfl ?aO ?aR (fun _ _ h=>h) (fun _ h=>h.elim) ?aF ?aB ?aS ?aL ?_
              (case aR=>repeat (first|exact (Kd.R_reads' HO125.out).2.2|(with_reducible refine Kd.C_alloc ?_ _)|(with_reducible refine Kd.C_drewN ?_ _)|(with_reducible refine Kd.C_drew ?_)))
              (case aB=>exact (by repeat (first|(with_reducible first|exact HB.out|apply below_alloc|apply pw_below_drewN|apply below_drew1)|exact HB.out)))
              (case aF=>exact (fun k_ hk=>Kd.fresh' (Kd.R_lt (by (with_reducible repeat (first|apply Kd.R_alloc|apply Kd.R_drewN|apply Kd.R_drew));exact HO125.out)) k_ hk))
              (case aO=>exact (by (with_reducible repeat (first|apply Kd.R_alloc|apply Kd.R_drewN|apply Kd.R_drew));exact Kd.R_mono HO_4.out (fun _ hk=>hk.2)))
              (case aS=>exact (below_size (by repeat (first|(with_reducible first|exact HB.out|apply below_alloc|apply pw_below_drewN|apply below_drew1)|exact HB.out))))
              (case aL=>have:=LMc21.out;omega)
              intro v127 w26 ho hb hg hat
              rw [← Ny126.out] at ho
              have n0_:=Aside0.mk (Kd.R_after (ok:=(fun _=>True)) (by (with_reducible repeat (first|apply Kd.R_alloc|apply Kd.R_drewN|apply Kd.R_drew));exact HO125.out) hg hat)
              have n1_:=Aside0.mk (hb)
              have n2_:=Aside0.mk (ho)
              clear HO125
              clear HB
              clear HO_4
              have HO125:=n0_
              have HB:=n1_
              have HO128:=n2_
              clear n0_ n1_ n2_
              clear ho hb hg hat
              refine hK.out _ _ trivial (fun hHeld=>?_)
              clear hK K
              refine norm_ (a':=?_) ?_ ?_
              rotate_left
              ·show Act.put _ (some 48) _ = _
               simp only [Act.put,List.setIfInBounds_toArray,List.set_cons_zero,List.set_cons_succ,i64_w,i32_w]
               rfl
              refine pure_ (i:=9) (N:=some 4) (v:=?_) (a':=?_) #[true,true,true,true,true,true,true,true,true,true] rfl rfl (any_of HT_.out (by kernel_rfl)) (fun _ _ _ h=>h) (Or.inl ⟨by rfl,?_⟩) ?_ ?_
              rotate_left
              ·intro w'
               go_simp
               with_reducible rfl
              rotate_left
              ·simp only [Act.put,List.setIfInBounds_toArray,List.set_cons_zero,List.set_cons_succ,i64_w,i32_w]
               rfl
              refine done_ (done_of HT_.out (by kernel_rfl)) ?_
              try go_wp2
              go_roundg k1
              case measure=>have:=HK1.out;omega
              case rel=>exact ⟨(y126),(wrap64 ((wrap64 (x5_1 + 2)) + 1)),(by first|rfl|(simp;done)|(simp only [i64_w,i32_w];done)|(simp only [i64_w,i32_w];rfl)|(simp [*];done)|(simp [emp_bne,emp_beq];done)),H',⟨by have:=HK1.out;omega⟩,⟨by (with_reducible repeat (first|apply Kd.R_alloc|apply Kd.R_drewN|apply Kd.R_drew));exact Kd.R_mono HO128.out (fun _ hk=>trivial)⟩,⟨by repeat (first|(with_reducible first|exact HB.out|apply below_alloc|apply pw_below_drewN|apply below_drew1)|exact HB.out)⟩⟩
             ·rw [if_neg c21] at H
              exact absurd H (by simp)
            ·rw [if_neg c19] at H
             exact absurd H (by simp)
           ·rw [if_neg c18] at H
            exact absurd H (by simp)
          ·rw [if_neg c16] at H
           exact absurd H (by simp)
         ·rw [if_neg c15] at H
          exact absurd H (by simp)
       ·replace c8:=Bool.eq_false_iff.mpr c8
        subst c8
        have H1:(some ((⟨#[]⟩:ByteArray),false)) = some (r1,r2):=by rw [if_neg (show ¬ (false = true) by decide)] at H;exact H
        clear H
        have H:=H1
        clear H1
        simp only [Option.some.injEq,Prod.mk.injEq] at H
        obtain ⟨rfl,rfl⟩:=H
        have p5:0 ≤ (x5_1:Int):=of_decide_eq_true (by first|(with_reducible assumption)|assumption)
        have q5:x5_1 < (a0.size:Int):=of_decide_eq_true (by first|(with_reducible assumption)|assumption)
        have hx5:=bt_at a0 x5_1
        replace p5:=eq_true p5
        replace q5:=eq_true q5
        go_wp2_with (first|((with_reducible refine gate_callee (f:=68) rfl ?_);refine goesL_ (some 26) rfl rfl Tryd.func68 (by kernel_rfl) rfl #[.string a0,.int .i64 x5_1] rfl (by (try simp only [List.map_toArray,List.map_cons,List.map_nil]);first|done|rfl|(simp only [List.length_drop,List.length_take];rfl)) ?_;(with_reducible refine (impl_signByte.calls a0 x5_1 t117 false _ A7.out).mono ?_);rintro e w28 ⟨rfl,hb⟩;refine ⟨_,rfl,?_⟩;have n0_:=Aside0.mk (Kd.R_below (by (with_reducible repeat (first|apply Kd.R_alloc|apply Kd.R_drewN|apply Kd.R_drew));exact HO_4.out) hb);have n1_:=Aside0.mk (below_step (by repeat (first|(with_reducible first|exact HB.out|apply below_alloc|apply pw_below_drewN|apply below_drew1)|exact HB.out)) hb);clear HO_4;clear HB;have HO_4:=n0_;have HB:=n1_;clear n0_ n1_;(try clear hb);(try clear hb2);(try clear hk);(try clear hi)))
        go_ret2
        exact ⟨by first|rfl|(simp <;> rfl)|(simp [*] <;> rfl),by repeat (first|(with_reducible first|exact HB.out|apply below_alloc|apply pw_below_drewN|apply below_drew1)|exact HB.out)⟩
      ·rw [if_neg c6] at H
       have c6b0:((bt a0 x5_1) == 37) = false:=beq_eq_false_iff_ne.mpr c6
       have c6b1:((bt a0 x5_1) != 37) = true:=bne_iff_ne.mpr c6
       replace H:=Option.bind_eq_some_iff.mp H
       obtain ⟨t129,A290,H⟩:=H
       replace H:(if t129 = true then (if x4_1.length < 140737488355328 then (impl_EscNorm.l0 k1 a0 (x4_1 ++ [bt a0 x5_1]) (wrap64 (x5_1 + 1))) else (none)) else (if 0 ≤ ((bt a0 x5_1) / 16) then (if ((bt a0 x5_1) / 16) < 16 then (if 0 ≤ (Go.bits .and .u8 (bt a0 x5_1) 15) then (if (Go.bits .and .u8 (bt a0 x5_1) 15) < 16 then ((some (([37,bt (⟨#[48,49,50,51,52,53,54,55,56,57,65,66,67,68,69,70]⟩:ByteArray) ((bt a0 x5_1) / 16),bt (⟨#[48,49,50,51,52,53,54,55,56,57,65,66,67,68,69,70]⟩:ByteArray) (Go.bits .and .u8 (bt a0 x5_1) 15)]:List Int):List Int)).bind fun y133=>(if x4_1.length + y133.length < 140737488355328 then (impl_EscNorm.l0 k1 a0 (x4_1 ++ y133) (wrap64 (x5_1 + 1))) else (none))) else (none)) else (none)) else (none)) else (none))) = some (r1,r2):=H
       have A29:=Aside0.mk A290
       clear A290
       by_cases c30:t129 = true
       ·subst c30
        have H1:(if x4_1.length < 140737488355328 then (impl_EscNorm.l0 k1 a0 (x4_1 ++ [bt a0 x5_1]) (wrap64 (x5_1 + 1))) else (none)) = some (r1,r2):=by rw [if_pos rfl] at H;exact H
        clear H
        have H:=H1
        clear H1
        by_cases c31:x4_1.length < 140737488355328
        ·rw [if_pos c31] at H
         have LMc31:=Aside0.mk c31
         clear c31
         obtain ⟨y130,hy130⟩:∃ y_:List Int,y_ = (x4_1 ++ [bt a0 x5_1]):=⟨_,rfl⟩
         replace H:(impl_EscNorm.l0 k1 a0 y130 (wrap64 (x5_1 + 1))) = some (r1,r2):=by first|(rw [hy130];with_reducible exact H)|(have H2_:=(Option.bind_some _ _).symm.trans H;rw [hy130];with_reducible exact H2_)|(have H2_:=(Option.bind_some _ _).symm.trans H;with_reducible exact H2_)|with_reducible exact H|(rw [hy130];exact H)|exact H
         have Ny130:=Aside0.mk hy130
         clear hy130
         have H':=Aside0.mk H
         clear H
         have p5:0 ≤ (x5_1:Int):=of_decide_eq_true (by first|(with_reducible assumption)|assumption)
         have q5:x5_1 < (a0.size:Int):=of_decide_eq_true (by first|(with_reducible assumption)|assumption)
         have hx5:=bt_at a0 x5_1
         replace p5:=eq_true p5
         replace q5:=eq_true q5
         go_wp2_with (first|((with_reducible refine gate_callee (f:=69) rfl ?_);refine goesL_ (some 35) rfl rfl Tryd.func69 (by kernel_rfl) rfl #[.int .u8 (bt a0 x5_1)] rfl (by (try simp only [List.map_toArray,List.map_cons,List.map_nil]);first|done|rfl|(simp only [List.length_drop,List.length_take];rfl)) ?_;(with_reducible refine (impl_standsForItself.calls (bt a0 x5_1) true _ A29.out).mono ?_);rintro e w' ⟨rfl,⟨nd,rfl⟩⟩;refine ⟨_,rfl,?_⟩)|((with_reducible refine gate_builtin (b:=.append) (xs:=#[.tmp 36,.tmp 38]) rfl ?_);at_builtin;refine Kd.R_append (Kd.int .u8) (w0:=w) w.heap.size rfl (.tmp 36) (.tmp 38) 30 5 (.int .u8 0) 1 rfl Tryd.underlying30 info5 rfl (by decide) (by omega) u4 x4_1 (bt a0 x5_1) [.int .u8 (bt a0 x5_1)] (fun _=>True) (fun _=>False) rfl rfl ?aP (fun _ hk=>hk.elim) ?aF ?aO ?aB ?aS ?aL ?_;(case aP=>exact rfl);(case aB=>exact (by repeat (first|(with_reducible first|exact HB.out|apply below_alloc|apply pw_below_drewN|apply below_drew1)|exact HB.out)));(case aF=>exact (fun _ _=>trivial));(case aO=>exact (by (with_reducible repeat (first|apply Kd.R_alloc|apply Kd.R_drewN|apply Kd.R_drew));exact HO_4.out));(case aS=>exact (below_size (by repeat (first|(with_reducible first|exact HB.out|apply below_alloc|apply pw_below_drewN|apply below_drew1)|exact HB.out))));(case aL=>have:=LMc31.out;omega);intro v131 w32 ho hb hg hat;rw [← Ny130.out] at ho;have n0_:=Aside0.mk (hb);have n1_:=Aside0.mk (ho);clear HB;clear HO_4;have HB:=n0_;have HO132:=n1_;clear n0_ n1_;clear ho hb hg hat))
         go_roundg k1
         case measure=>have:=HK1.out;omega
         case rel=>exact ⟨(y130),(wrap64 (x5_1 + 1)),(by first|rfl|(simp;done)|(simp only [i64_w,i32_w];done)|(simp only [i64_w,i32_w];rfl)|(simp [*];done)|(simp [emp_bne,emp_beq];done)),H',⟨by have:=HK1.out;omega⟩,⟨by (with_reducible repeat (first|apply Kd.R_alloc|apply Kd.R_drewN|apply Kd.R_drew));exact HO132.out⟩,⟨by repeat (first|(with_reducible first|exact HB.out|apply below_alloc|apply pw_below_drewN|apply below_drew1)|exact HB.out)⟩⟩
        ·rw [if_neg c31] at H
         exact absurd H (by simp)
       ·replace c30:=Bool.eq_false_iff.mpr c30
        subst c30
        have H1:(if 0 ≤ ((bt a0 x5_1) / 16) then (if ((bt a0 x5_1) / 16) < 16 then (if 0 ≤ (Go.bits .and .u8 (bt a0 x5_1) 15) then (if (Go.bits .and .u8 (bt a0 x5_1) 15) < 16 then ((some (([37,bt (⟨#[48,49,50,51,52,53,54,55,56,57,65,66,67,68,69,70]⟩:ByteArray) ((bt a0 x5_1) / 16),bt (⟨#[48,49,50,51,52,53,54,55,56,57,65,66,67,68,69,70]⟩:ByteArray) (Go.bits .and .u8 (bt a0 x5_1) 15)]:List Int):List Int)).bind fun y133=>(if x4_1.length + y133.length < 140737488355328 then (impl_EscNorm.l0 k1 a0 (x4_1 ++ y133) (wrap64 (x5_1 + 1))) else (none))) else (none)) else (none)) else (none)) else (none)) = some (r1,r2):=by rw [if_neg (show ¬ (false = true) by decide)] at H;exact H
        clear H
        have H:=H1
        clear H1
        obtain ⟨ji33,hji33⟩:∃ j_:Int,((bt a0 x5_1) / 16) = j_:=⟨_,rfl⟩
        replace H:(if 0 ≤ (ji33) then (if (ji33) < 16 then (if 0 ≤ (Go.bits .and .u8 (bt a0 x5_1) 15) then (if (Go.bits .and .u8 (bt a0 x5_1) 15) < 16 then ((some (([37,bt (⟨#[48,49,50,51,52,53,54,55,56,57,65,66,67,68,69,70]⟩:ByteArray) (ji33),bt (⟨#[48,49,50,51,52,53,54,55,56,57,65,66,67,68,69,70]⟩:ByteArray) (Go.bits .and .u8 (bt a0 x5_1) 15)]:List Int):List Int)).bind fun y133=>(if x4_1.length + y133.length < 140737488355328 then (impl_EscNorm.l0 k1 a0 (x4_1 ++ y133) (wrap64 (x5_1 + 1))) else (none))) else (none)) else (none)) else (none)) else (none)) = some (r1,r2):=by first|(rw [hji33] at H;exact H)|(simp only [hji33] at H ⊢;exact H)
        (try rw [hji33] at A29)
        by_cases c34:0 ≤ (ji33)
        ·rw [if_pos c34] at H
         have c34b0:decide (0 ≤ (ji33)) = true:=decide_eq_true c34
         clear c34
         by_cases c35:(ji33) < 16
         ·rw [if_pos c35] at H
          have c35b0:decide ((ji33) < 16) = true:=decide_eq_true c35
          clear c35
          by_cases c37:0 ≤ (Go.bits .and .u8 (bt a0 x5_1) 15)
          ·rw [if_pos c37] at H
           have c37b0:decide (0 ≤ (Go.bits .and .u8 (bt a0 x5_1) 15)) = true:=decide_eq_true c37
           clear c37
           by_cases c38:(Go.bits .and .u8 (bt a0 x5_1) 15) < 16
           ·rw [if_pos c38] at H
            have c38b0:decide ((Go.bits .and .u8 (bt a0 x5_1) 15) < 16) = true:=decide_eq_true c38
            clear c38
            obtain ⟨y133,hy133⟩:∃ y_:List Int,y_ = (([37,bt (⟨#[48,49,50,51,52,53,54,55,56,57,65,66,67,68,69,70]⟩:ByteArray) (ji33),bt (⟨#[48,49,50,51,52,53,54,55,56,57,65,66,67,68,69,70]⟩:ByteArray) (Go.bits .and .u8 (bt a0 x5_1) 15)]:List Int)):=⟨_,rfl⟩
            replace H:(if x4_1.length + y133.length < 140737488355328 then (impl_EscNorm.l0 k1 a0 (x4_1 ++ y133) (wrap64 (x5_1 + 1))) else (none)) = some (r1,r2):=by first|(rw [hy133];with_reducible exact H)|(have H2_:=(Option.bind_some _ _).symm.trans H;rw [hy133];with_reducible exact H2_)|(have H2_:=(Option.bind_some _ _).symm.trans H;with_reducible exact H2_)|with_reducible exact H|(rw [hy133];exact H)|exact H
            have Ny133:=Aside0.mk hy133
            clear hy133
            by_cases c40:x4_1.length + y133.length < 140737488355328
            ·rw [if_pos c40] at H
             have LMc40:=Aside0.mk c40
             clear c40
             obtain ⟨y136,hy136⟩:∃ y_:List Int,y_ = (x4_1 ++ y133):=⟨_,rfl⟩
             replace H:(impl_EscNorm.l0 k1 a0 y136 (wrap64 (x5_1 + 1))) = some (r1,r2):=by first|(rw [hy136];with_reducible exact H)|(have H2_:=(Option.bind_some _ _).symm.trans H;rw [hy136];with_reducible exact H2_)|(have H2_:=(Option.bind_some _ _).symm.trans H;with_reducible exact H2_)|with_reducible exact H|(rw [hy136];exact H)|exact H
             have Ny136:=Aside0.mk hy136
             clear hy136
             have H':=Aside0.mk H
             clear H
             have p5:0 ≤ (x5_1:Int):=of_decide_eq_true (by first|(with_reducible assumption)|assumption)
             have q5:x5_1 < (a0.size:Int):=of_decide_eq_true (by first|(with_reducible assumption)|assumption)
             have hx5:=bt_at a0 x5_1
             replace p5:=eq_true p5
             replace q5:=eq_true q5
             try go_wp2_with (first|((with_reducible refine gate_callee (f:=69) rfl ?_);refine goesL_ (some 35) rfl rfl Tryd.func69 (by kernel_rfl) rfl #[.int .u8 (bt a0 x5_1)] rfl (by (try simp only [List.map_toArray,List.map_cons,List.map_nil]);first|done|rfl|(simp only [List.length_drop,List.length_take];rfl)) ?_;(with_reducible refine (impl_standsForItself.calls (bt a0 x5_1) false _ A29.out).mono ?_);rintro e w' ⟨rfl,⟨nd,rfl⟩⟩;refine ⟨_,rfl,?_⟩))
             (try (rw [drewN_self wr];generalize hq_:World.drewN wr _ = wr;have n0_:Aside0 (Kd.R (Kd.int .u8) 5 wr w.heap.size (fun _=>True) u4 x4_1):=⟨by rw [← hq_];exact (by (with_reducible repeat (first|apply Kd.R_alloc|apply Kd.R_drewN|apply Kd.R_drew));exact HO_4.out)⟩;have n1_:Aside0 (Below w.heap.size w wr):=⟨by rw [← hq_];exact (by repeat (first|(with_reducible first|exact HB.out|apply below_alloc|apply pw_below_drewN|apply below_drew1)|exact HB.out))⟩;clear HO_4 HB hq_;have HO_4:=n0_;have HB:=n1_;clear n0_ n1_))
             have n0_:=Aside0.mk (Kd.R_drew HO_4.out)
             have n1_:=Aside0.mk (below_drew1 HB.out)
             clear HO_4
             clear HB
             have HO_4:=n0_
             have HB:=n1_
             clear n0_ n1_
             have p36:0 ≤ ((ji33):Int):=of_decide_eq_true (by first|(with_reducible assumption)|assumption)
             have q36:(ji33) < (16:Int):=of_decide_eq_true (by first|(with_reducible assumption)|assumption)
             have hx36:=bt_at (⟨#[48,49,50,51,52,53,54,55,56,57,65,66,67,68,69,70]⟩:ByteArray) (ji33)
             replace p36:=eq_true p36
             replace q36:=eq_true q36
             have p39:0 ≤ ((Go.bits .and .u8 (bt a0 x5_1) 15):Int):=of_decide_eq_true (by first|(with_reducible assumption)|assumption)
             have q39:(Go.bits .and .u8 (bt a0 x5_1) 15) < (16:Int):=of_decide_eq_true (by first|(with_reducible assumption)|assumption)
             have hx39:=bt_at (⟨#[48,49,50,51,52,53,54,55,56,57,65,66,67,68,69,70]⟩:ByteArray) (Go.bits .and .u8 (bt a0 x5_1) 15)
             replace p39:=eq_true p39
             replace q39:=eq_true q39
             refine start_ (n:=10) (S:=fun w'=>True) (ds:=[]) #[false,false,false,false,false,false,false,false,false,false] (by kernel_rfl) rfl rfl trivial (fun hHeld=>?_);refine with_tabW impl_EscNorm.tab16 impl_EscNorm.bits16 (fun HT_ HW_=>?_)
             generalize wr.drew = w41 at HO_4 HB hHeld ⊢
             refine pure_ (i:=0) (N:=some 40) (v:=?_) (a':=?_) #[true,false,false,false,false,false,false,false,false,false] rfl rfl (any_of HT_.out (by kernel_rfl)) (fun _ _ _ h=>h) (Or.inl ⟨by rfl,?_⟩) ?_ ?_
             rotate_left
             ·intro w'
              go_simp
              with_reducible rfl
             rotate_left
             ·simp only [Act.put,List.setIfInBounds_toArray,List.set_cons_zero,List.set_cons_succ,i64_w,i32_w]
              rfl
             refine pure_ (i:=1) (N:=some 41) (v:=?_) (a':=?_) #[true,true,false,false,false,false,false,false,false,false] rfl rfl (any_of HT_.out (by kernel_rfl)) (fun _ _ _ h=>h) (Or.inl ⟨by rfl,?_⟩) ?_ ?_
             rotate_left
             ·intro w'
              go_simp
              with_reducible rfl
             rotate_left
             ·simp only [Act.put,List.setIfInBounds_toArray,List.set_cons_zero,List.set_cons_succ,i64_w,i32_w]
              rfl
             refine pure_ (i:=2) (N:=some 42) (v:=?_) (a':=?_) #[true,true,true,false,false,false,false,false,false,false] rfl rfl (any_of HT_.out (by kernel_rfl)) (fun _ _ _ h=>h) (Or.inl ⟨by rfl,?_⟩) ?_ ?_
             rotate_left
             ·intro w'
              go_simp
              with_reducible rfl
             rotate_left
             ·simp only [Act.put,List.setIfInBounds_toArray,List.set_cons_zero,List.set_cons_succ,i64_w,i32_w]
              rfl
             refine pure_ (i:=4) (N:=some 44) (v:=?_) (a':=?_) #[true,true,true,false,true,false,false,false,false,false] rfl rfl (any_of HT_.out (by kernel_rfl)) (fun _ _ _ h=>h) (Or.inl ⟨by rfl,?_⟩) ?_ ?_
             rotate_left
             ·intro w'
              go_simp
              with_reducible rfl
             rotate_left
             ·simp only [Act.put,List.setIfInBounds_toArray,List.set_cons_zero,List.set_cons_succ,i64_w,i32_w]
              rfl
             refine pure_ (i:=5) (N:=some 45) (v:=?_) (a':=?_) #[true,true,true,false,true,true,false,false,false,false] rfl rfl (any_of HT_.out (by kernel_rfl)) (fun _ _ _ h=>h) (Or.inl ⟨by rfl,?_⟩) ?_ ?_
             rotate_left
             ·intro w'
              go_simp
              with_reducible rfl
             rotate_left
             ·simp only [Act.put,List.setIfInBounds_toArray,List.set_cons_zero,List.set_cons_succ,i64_w,i32_w]
              rfl
             refine take_ (i:=3) (N:=some 43) (v:=?_) (a':=?_) #[true,true,true,true,true,true,false,false,false,false] rfl rfl (take_ofW HT_.out HW_.out (by kernel_rfl)) (fun _ _ _ h=>h) (Or.inl ⟨by rfl,?_⟩) hHeld ?_ ?_
             rotate_left
             ·intro w' _
              go_simp
              with_reducible rfl
             rotate_left
             ·simp only [Act.put,List.setIfInBounds_toArray,List.set_cons_zero,List.set_cons_succ,i64_w,i32_w]
              rfl
             refine take_ (i:=6) (N:=some 46) (v:=?_) (a':=?_) #[true,true,true,true,true,true,true,false,false,false] rfl rfl (take_ofW HT_.out HW_.out (by kernel_rfl)) (fun _ _ _ h=>h) (Or.inl ⟨by rfl,?_⟩) hHeld ?_ ?_
             rotate_left
             ·intro w' _
              go_simp
              with_reducible rfl
             rotate_left
             ·simp only [Act.put,List.setIfInBounds_toArray,List.set_cons_zero,List.set_cons_succ,i64_w,i32_w]
              rfl
             refine one_ (i:=7) (N:=some 47) #[true,true,true,true,true,true,true,true,false,false] rfl rfl (one_of HT_.out (by kernel_rfl)) (by decide) (fun K hK=>?_)
             refine Kd.R_lit_step (Kd.int .u8) _ 5 ?hg (N:=47) ?hd (xs:=([37,bt (⟨#[48,49,50,51,52,53,54,55,56,57,65,66,67,68,69,70]⟩:ByteArray) (ji33),bt (⟨#[48,49,50,51,52,53,54,55,56,57,65,66,67,68,69,70]⟩:ByteArray) (Go.bits .and .u8 (bt a0 x5_1) 15)]:List Int)) (inner:=[.int .u8 37,.int .u8 (bt (⟨#[48,49,50,51,52,53,54,55,56,57,65,66,67,68,69,70]⟩:ByteArray) (ji33)),.int .u8 (bt (⟨#[48,49,50,51,52,53,54,55,56,57,65,66,67,68,69,70]⟩:ByteArray) (Go.bits .and .u8 (bt a0 x5_1) 15))]) (ok:=fun _=>True) (okp:=fun _=>True) ?hr ?hp (fun _ hk=>hk) trivial (Below.refl _ _) (Nat.le_refl _) (by simp) ?_;(case hd=>rfl);(case hg=>rfl);(case hr=>first|(go_simp;done)|(go_simp;rfl));(case hp=>exact (Reps.one (show Kd.M (Kd.int .u8) _ _ _ 37 [.int .u8 37] from rfl) (Reps.one (show Kd.M (Kd.int .u8) _ _ _ (bt (⟨#[48,49,50,51,52,53,54,55,56,57,65,66,67,68,69,70]⟩:ByteArray) (ji33)) [.int .u8 (bt (⟨#[48,49,50,51,52,53,54,55,56,57,65,66,67,68,69,70]⟩:ByteArray) (ji33))] from rfl) (Reps.one (show Kd.M (Kd.int .u8) _ _ _ (bt (⟨#[48,49,50,51,52,53,54,55,56,57,65,66,67,68,69,70]⟩:ByteArray) (Go.bits .and .u8 (bt a0 x5_1) 15)) [.int .u8 (bt (⟨#[48,49,50,51,52,53,54,55,56,57,65,66,67,68,69,70]⟩:ByteArray) (Go.bits .and .u8 (bt a0 x5_1) 15))] from rfl) (Reps.none _ _)))))
             intro v134 w42 ho43 hb hg_ hnew_
             clear hg_ hnew_
             (first|rw [← Ny133.out] at ho43|(simp only [Int.reduceToNat] at ho43;rw [← Ny133.out] at ho43))
             have n0_:=Aside0.mk (Kd.R_elder' (by (with_reducible repeat (first|apply Kd.R_alloc|apply Kd.R_drewN|apply Kd.R_drew));exact HO_4.out) (Kd.R_base ho43) hb)
             have n1_:=Aside0.mk (Kd.R_lower (Kd.R_new' ho43 (Kd.R_lt (by (with_reducible repeat (first|apply Kd.R_alloc|apply Kd.R_drewN|apply Kd.R_drew));exact HO_4.out))) (below_size (by repeat (first|(with_reducible first|exact HB.out|apply below_alloc|apply pw_below_drewN|apply below_drew1)|exact HB.out))))
             have n2_:=Aside0.mk (below_step (by repeat (first|(with_reducible first|exact HB.out|apply below_alloc|apply pw_below_drewN|apply below_drew1)|exact HB.out)) hb)
             clear HO_4
             clear HB
             have HO_4:=n0_
             have HO135:=n1_
             have HB:=n2_
             clear n0_ n1_ n2_
             clear hb ho43
             obtain ⟨Ao45,co45,eo45⟩:=Kd.R_slice HO135.out
             (first|subst eo45|(injection eo45 with f1_ f2_ f3_;have f4_:=f1_.symm;have f5_:=f3_.symm;clear f1_ f2_ f3_;subst f4_;subst f5_))
             refine hK.out _ _ trivial (fun hHeld=>?_)
             clear hK K
             refine norm_ (a':=?_) ?_ ?_
             rotate_left
             ·show Act.put _ (some 47) _ = _
              simp only [Act.put,List.setIfInBounds_toArray,List.set_cons_zero,List.set_cons_succ,i64_w,i32_w]
              rfl
             refine one_ (i:=8) (N:=some 48) #[true,true,true,true,true,true,true,true,true,false] rfl rfl (one_of HT_.out (by kernel_rfl)) (by decide) (fun K hK=>?_)
             refine Kd.R_append_rows_step (Kd.int .u8) (w0:=w) w.heap.size (by rfl) (.tmp 40) (.tmp 47) 30 5 (.int .u8 0) 1 rfl Tryd.underlying30 info5 rfl (by decide) (by omega) u4 x4_1 y133 _ _ _ (fun k_=>some k_ ≠ (.slice Ao45 y133.length co45:Value).ownBlock) (fun _=>False) rfl rfl ?aO ?aR (fun _ _ h=>h) (fun _ h=>h.elim) ?aF ?aB ?aS ?aL ?_
             (case aR=>repeat (first|exact (Kd.R_reads' HO135.out).2.2|(with_reducible refine Kd.C_alloc ?_ _)|(with_reducible refine Kd.C_drewN ?_ _)|(with_reducible refine Kd.C_drew ?_)))
             (case aB=>exact (by repeat (first|(with_reducible first|exact HB.out|apply below_alloc|apply pw_below_drewN|apply below_drew1)|exact HB.out)))
             (case aF=>exact (fun k_ hk=>Kd.fresh' (Kd.R_lt (by (with_reducible repeat (first|apply Kd.R_alloc|apply Kd.R_drewN|apply Kd.R_drew));exact HO135.out)) k_ hk))
             (case aO=>exact (by (with_reducible repeat (first|apply Kd.R_alloc|apply Kd.R_drewN|apply Kd.R_drew));exact Kd.R_mono HO_4.out (fun _ hk=>hk.2)))
             (case aS=>exact (below_size (by repeat (first|(with_reducible first|exact HB.out|apply below_alloc|apply pw_below_drewN|apply below_drew1)|exact HB.out))))
             (case aL=>have:=LMc40.out;omega)
             intro v137 w44 ho hb hg hat
             rw [← Ny136.out] at ho
             have n0_:=Aside0.mk (Kd.R_after (ok:=(fun _=>True)) (by (with_reducible repeat (first|apply Kd.R_alloc|apply Kd.R_drewN|apply Kd.R_drew));exact HO135.out) hg hat)
             have n1_:=Aside0.mk (hb)
             have n2_:=Aside0.mk (ho)
             clear HO135
             clear HB
             clear HO_4
             have HO135:=n0_
             have HB:=n1_
             have HO138:=n2_
             clear n0_ n1_ n2_
             clear ho hb hg hat
             refine hK.out _ _ trivial (fun hHeld=>?_)
             clear hK K
             refine norm_ (a':=?_) ?_ ?_
             rotate_left
             ·show Act.put _ (some 48) _ = _
              simp only [Act.put,List.setIfInBounds_toArray,List.set_cons_zero,List.set_cons_succ,i64_w,i32_w]
              rfl
             refine pure_ (i:=9) (N:=some 4) (v:=?_) (a':=?_) #[true,true,true,true,true,true,true,true,true,true] rfl rfl (any_of HT_.out (by kernel_rfl)) (fun _ _ _ h=>h) (Or.inl ⟨by rfl,?_⟩) ?_ ?_
             rotate_left
             ·intro w'
              go_simp
              with_reducible rfl
             rotate_left
             ·simp only [Act.put,List.setIfInBounds_toArray,List.set_cons_zero,List.set_cons_succ,i64_w,i32_w]
              rfl
             refine done_ (done_of HT_.out (by kernel_rfl)) ?_
             try go_wp2
             go_roundg k1
             case measure=>have:=HK1.out;omega
             case rel=>exact ⟨(y136),(wrap64 (x5_1 + 1)),(by first|rfl|(simp;done)|(simp only [i64_w,i32_w];done)|(simp only [i64_w,i32_w];rfl)|(simp [*];done)|(simp [emp_bne,emp_beq];done)),H',⟨by have:=HK1.out;omega⟩,⟨by (with_reducible repeat (first|apply Kd.R_alloc|apply Kd.R_drewN|apply Kd.R_drew));exact Kd.R_mono HO138.out (fun _ hk=>trivial)⟩,⟨by repeat (first|(with_reducible first|exact HB.out|apply below_alloc|apply pw_below_drewN|apply below_drew1)|exact HB.out)⟩⟩
            ·rw [if_neg c40] at H
             exact absurd H (by simp)
           ·rw [if_neg c38] at H
            exact absurd H (by simp)
          ·rw [if_neg c37] at H
           exact absurd H (by simp)
         ·rw [if_neg c35] at H
          exact absurd H (by simp)
        ·rw [if_neg c34] at H
         exact absurd H (by simp)
     ·rw [if_neg c4] at H
      exact absurd H (by simp)
    ·rw [if_neg c3] at H
     have c3b0:decide (x5_1 < (a0.size:Int)) = false:=decide_eq_false c3
     clear c3
     simp only [Option.some.injEq,Prod.mk.injEq] at H
     obtain ⟨rfl,rfl⟩:=H
     have hcv46:=own_string (P:=Tryd.prog) Tryd.underlying30 Tryd.underlying5 Tryd.underlying9 (Kd.own_of_R HO_4.out)
     go_wp2
     go_ret2
     exact ⟨by first|rfl|(simp <;> rfl)|(simp [*] <;> rfl),by repeat (first|(with_reducible first|exact HB.out|apply below_alloc|apply pw_below_drewN|apply below_drew1)|exact HB.out)⟩

/-! ### impl_isNormal: function 37 -/
def impl_isNormal.f (k:Nat) (a0:ByteArray):Option (Bool):=(impl_EscNorm.f k a0).bind fun bt139=>(if bt139.2 = true then (some (bt139.1.toList == a0.toList)) else (some false))
theorem impl_isNormal.mono:∀ a0 k,LeO (impl_isNormal.f k a0) (impl_isNormal.f (k + 1) a0):=by
 intro a0 k
 unfold impl_isNormal.f
 repeat' first
   | (with_reducible exact impl_EscNorm.mono _ _)
   | (with_reducible exact LeO.refl _)
   | (with_reducible exact LeO.none _)
   | (with_reducible refine LeO.ite ?_ ?_)
   | (with_reducible refine LeO.bind ?_ (fun _=>?_))
   | exact impl_EscNorm.mono _ _
   | exact LeO.none _
   | refine LeO.ite ?_ ?_
   | refine LeO.bind ?_ (fun _=>?_)
theorem impl_isNormal.calls (k:Nat) (a0:ByteArray) (r:Bool) (w:World) (h:impl_isNormal.f k a0 = some r) :
  Calls Tryd.prog 37 #[.string a0] w fun e w'=>e = .returned (.bool r) ∧ Below w.heap.size w w':=by
 have HB:=Aside0.mk (Below.refl w.heap.size w)
 have H:((impl_EscNorm.f k a0).bind fun bt139=>(if bt139.2 = true then (some (bt139.1.toList == a0.toList)) else (some false))) = some r:=h
 clear h
 replace H:=Option.bind_eq_some_iff.mp H
 obtain ⟨⟨t139,t140⟩,A20,H⟩:=H
 replace H:(if t140 = true then (some (t139.toList == a0.toList)) else (some false)) = some r:=H
 have A2:=Aside0.mk A20
 clear A20
 by_cases c3:t140 = true
 ·subst c3
  have H1:(some (t139.toList == a0.toList)) = some r:=by rw [if_pos rfl] at H;exact H
  clear H
  have H:=H1
  clear H1
  obtain rfl:=Option.some.inj H
  go_enter Tryd.func37,Tryd.ntmps37
  go_wp2_with (first|((with_reducible refine gate_callee (f:=52) rfl ?_);refine goesL_ (some 7) rfl rfl Tryd.func52 (by kernel_rfl) rfl #[.string a0] rfl (by (try simp only [List.map_toArray,List.map_cons,List.map_nil]);first|done|rfl|(simp only [List.length_drop,List.length_take];rfl)) ?_;(with_reducible refine (impl_EscNorm.calls k a0 t139 true _ A2.out).mono ?_);rintro e w4 ⟨rfl,hb⟩;refine ⟨_,rfl,?_⟩;have n0_:=Aside0.mk (below_step (by repeat (first|(with_reducible first|exact HB.out|apply below_alloc|apply pw_below_drewN|apply below_drew1)|exact HB.out)) hb);clear HB;have HB:=n0_;clear n0_;(try clear hb);(try clear hb2);(try clear hk);(try clear hi)))
  go_ret
  exact ⟨by first|rfl|(simp <;> rfl)|(simp [*] <;> rfl),by repeat (first|(with_reducible first|exact HB.out|apply below_alloc|apply pw_below_drewN|apply below_drew1)|exact HB.out)⟩
 ·replace c3:=Bool.eq_false_iff.mpr c3
  subst c3
  have H1:(some false) = some r:=by rw [if_neg (show ¬ (false = true) by decide)] at H;exact H
  clear H
  have H:=H1
  clear H1
  obtain rfl:=Option.some.inj H
  go_enter Tryd.func37,Tryd.ntmps37
  go_wp2_with (first|((with_reducible refine gate_callee (f:=52) rfl ?_);refine goesL_ (some 7) rfl rfl Tryd.func52 (by kernel_rfl) rfl #[.string a0] rfl (by (try simp only [List.map_toArray,List.map_cons,List.map_nil]);first|done|rfl|(simp only [List.length_drop,List.length_take];rfl)) ?_;(with_reducible refine (impl_EscNorm.calls k a0 t139 false _ A2.out).mono ?_);rintro e w5 ⟨rfl,hb⟩;refine ⟨_,rfl,?_⟩;have n0_:=Aside0.mk (below_step (by repeat (first|(with_reducible first|exact HB.out|apply below_alloc|apply pw_below_drewN|apply below_drew1)|exact HB.out)) hb);clear HB;have HB:=n0_;clear n0_;(try clear hb);(try clear hb2);(try clear hk);(try clear hi)))
  go_ret
  exact ⟨by first|rfl|(simp <;> rfl)|(simp [*] <;> rfl),by repeat (first|(with_reducible first|exact HB.out|apply below_alloc|apply pw_below_drewN|apply below_drew1)|exact HB.out)⟩

end Go.Proofs.YtochmlkladpfgaaDoor.P
